-- Written by a program of this session (myprint.py over the kit's printer, some callees given by hand). Lean checks it.
import Derived.Test.YtlnnjdjdpfifiaaR0
import Derived.Test.YtlnnjdjdpfifiaaR1
import Derived.Test.YtlnnjdjdpfifiaaR2
import Derived.Test.YtlnnjdjdpfifiaaR5
import Derived.Test.YtlnnjdjdpfifiaaR6
namespace Go.Proofs.Ytlnnjdjdpfifiaa.R
open Go.Proofs.Ytlnnjdjdpfifiaa.H Go.RowKit Go.Proofs.YtlnnjdjdpfifiaaW.PrintWords Go.Proofs.YtlnnjdjdpfifiaaW.PrintLast Go.Proofs.YtlnnjdjdpfifiaaW.PrintMore
attribute [local go_sem] max2_int min2_int max_two min_two max_three min_three max_four min_four   -- for this text's walks alone
set_option linter.unusedVariables false
set_option linter.unusedSimpArgs false

/-! ### clavierlaw08_StackPuts: function 7 -/
def clavierlaw08_StackPuts.f (k : Nat) (a0_0 : Int) (l0_1 : List Int) (a1 : Int) (a2_0 : Int) (l2_1 : List Int) : Option (Bool) := (clavierlaw08_awake.f).bind fun t297 => ((clavierlaw08_flags.f k a0_0 l0_1).bind fun bt298 => ((clavierlaw08_flags.f k a2_0 l2_1).bind fun bt302 => ((clavierlaw08_made.f bt298.1 bt298.2).bind fun bt306 => ((clavierref08_Flags.f a1).bind fun t311 => ((stack_Put.f bt306.1 bt306.2 a1 2).bind fun bt312 => ((stack_Put.f bt312.1 bt312.2 a1 3).bind fun bt317 => ((stack_Put.f bt306.1 bt306.2 a1 4).bind fun bt322 => (if t297 = true then ((clavierlaw08_both.f k bt306.1 t311).bind fun t327 => (if bt312.1 = (wrap64 ((wrap64 (bt306.1 + t311)) - t327)) then ((clavierlaw08_both.f k bt306.1 t311).bind fun t328 => (if bt317.1 = (wrap64 (bt306.1 - t328)) then ((clavierlaw08_same.f k bt322.1 bt322.2 bt298.1 bt298.2).bind fun t329 => (if t329 = true then ((clavierlaw08_made.f bt302.1 bt302.2).bind fun bt330 => ((stack_Same.f k bt306.1 bt306.2 bt330.1 bt330.2).bind fun t334 => ((clavierref08_Same.f k bt298.1 bt298.2 bt302.1 bt302.2).bind fun t335 => (if (t334 == t335) = true then ((stack_Put.f bt312.1 bt312.2 0 1).bind fun bt336 => ((stack_Put.f bt306.1 bt306.2 0 1).bind fun bt340 => ((stack_Same.f k bt336.1 bt336.2 bt340.1 bt340.2).bind fun t344 => (some t344)))) else (none))))) else (none))) else (none))) else (none))) else (none)))))))))
theorem clavierlaw08_StackPuts.mono : ∀ a0 a1 a2 a3 a4 k, LeO (clavierlaw08_StackPuts.f k a0 a1 a2 a3 a4) (clavierlaw08_StackPuts.f (k + 1) a0 a1 a2 a3 a4) := by
  intro a0 a1 a2 a3 a4 k
  unfold clavierlaw08_StackPuts.f
  repeat' first
      | (with_reducible exact clavierlaw08_both.mono _ _ _)
      | (with_reducible exact clavierlaw08_flags.mono _ _ _)
      | (with_reducible exact clavierlaw08_same.mono _ _ _ _ _)
      | (with_reducible exact clavierref08_Same.mono _ _ _ _ _)
      | (with_reducible exact stack_Same.mono _ _ _ _ _)
      | (with_reducible exact LeO.refl _)
      | (with_reducible exact LeO.none _)
      | (with_reducible refine LeO.ite ?_ ?_)
      | (with_reducible refine LeO.bind ?_ (fun _ => ?_))
      | exact clavierlaw08_both.mono _ _ _
      | exact clavierlaw08_flags.mono _ _ _
      | exact clavierlaw08_same.mono _ _ _ _ _
      | exact clavierref08_Same.mono _ _ _ _ _
      | exact stack_Same.mono _ _ _ _ _
      | exact LeO.none _
      | refine LeO.ite ?_ ?_
      | refine LeO.bind ?_ (fun _ => ?_)
def clavierlaw08_StackPuts.T9 : Bool × List (List Nat × List Nat) := (true, [([], []), ([0], [0]), ([1], [1]), ([2, 1], [1, 2]), ([1], [1]), ([4, 1], [1, 4]), ([1], [1]), ([5, 6, 1], [1, 5, 6]), ([1], [1]), ([8, 1], [1, 8]), ([1], [1]), ([9, 10, 1, 1], [1, 9, 10]), ([7, 11, 1], [1, 7, 11]), ([3, 12, 1], [1, 3, 12]), ([1, 13], [1, 13]), ([14, 11], [14]), ([15], [15]), ([16, 15], [15, 16]), ([15], [15]), ([18, 15], [15, 18]), ([15], [15]), ([20, 15], [15, 20]), ([15], [15]), ([21, 22, 15, 15], [15, 21, 22]), ([19, 23, 15], [15, 19, 23]), ([17, 24, 15], [15, 17, 24]), ([15, 25], [15, 25]), ([26, 23], [26]), ([27], [27]), ([27], [27]), ([28, 29, 27, 27], [27, 28, 29]), ([27, 30], [27, 30]), ([31, 30], [31]), ([32], [32]), ([32], [32]), ([34, 32, 32], [32, 34]), ([33, 35, 35, 32], [32, 33, 35]), ([32], [32]), ([32], [32]), ([37, 38, 36, 32], [32, 37, 38]), ([36, 39, 32], [32, 36, 39]), ([32, 40], [32, 40]), ([41, 39], [41]), ([42], [42]), ([43, 42, 42], [42, 43]), ([42], [42]), ([45, 44, 42], [42, 45]), ([44, 46, 46, 42], [42, 44, 46]), ([42, 47], [42, 47]), ([48, 47, 0, 1, 2, 3, 4, 5, 6, 7, 8, 9, 10, 11, 12, 13, 14, 15, 16, 17, 18, 19, 20, 21, 22, 23, 24, 25, 26, 27, 28, 29, 30, 31, 32, 33, 34, 35, 36, 37, 38, 39, 40, 41, 42, 43, 44, 45, 46, 47, 48], [48])])
def clavierlaw08_StackPuts.B9 : List Nat := [0, 1, 3, 7, 3, 19, 3, 115, 3, 259, 3, 1795, 4083, 8191, 16383, 32767, 65535, 131071, 65535, 327679, 65535, 1114111, 65535, 7405567, 16580607, 33554431, 67108863, 134217727, 268435455, 268435455, 1073741823, 2147483647, 4294967295, 8589934591, 8589934591, 25769803775, 68719476735, 8589934591, 8589934591, 549755813887, 1099511627775, 2199023255551, 4398046511103, 8796093022207, 17592186044415, 8796093022207, 70368744177663, 140737488355327, 281474976710655, 562949953421311]
theorem clavierlaw08_StackPuts.tab9 : rtab .any (opsOf Try.f7 9) = clavierlaw08_StackPuts.T9 := by kernel_rfl
theorem clavierlaw08_StackPuts.bits9 : waitsOk clavierlaw08_StackPuts.T9.2 clavierlaw08_StackPuts.B9 = true := by kernel_rfl
set_option maxHeartbeats 8000000 in
set_option maxRecDepth 100000 in
theorem clavierlaw08_StackPuts.calls (k : Nat) (a0_0 : Int) (A0_1 : Option Addr) (c0_1 : Nat) (l0_1 : List Int) (a1 : Int) (a2_0 : Int) (A2_1 : Option Addr) (c2_1 : Nat) (l2_1 : List Int) (r : Bool) (w : World) (hr0_1 : Kd.C (Kd.int .i64) w A0_1 l0_1.length l0_1) (hc0_1 : l0_1.length ≤ c0_1) (hr2_1 : Kd.C (Kd.int .i64) w A2_1 l2_1.length l2_1) (hc2_1 : l2_1.length ≤ c2_1) (h : clavierlaw08_StackPuts.f k a0_0 l0_1 a1 a2_0 l2_1 = some r) :
    Calls Try.prog 7 #[.agg #[.int .i64 a0_0, .slice A0_1 l0_1.length c0_1], .int .i64 a1, .agg #[.int .i64 a2_0, .slice A2_1 l2_1.length c2_1]] w fun e w' => e = .returned (.bool r) ∧ Below w.heap.size w w' := by
  have hu24 := Try.underlying24
  have hu27 := Try.underlying27
  have HR0_1 := Aside0.mk hr0_1
  have HC0_1 := Aside0.mk hc0_1
  clear hr0_1 hc0_1
  have HR2_1 := Aside0.mk hr2_1
  have HC2_1 := Aside0.mk hc2_1
  clear hr2_1 hc2_1
  have HB := Aside0.mk (Below.refl w.heap.size w)
  have H : ((clavierlaw08_awake.f).bind fun t297 => ((clavierlaw08_flags.f k a0_0 l0_1).bind fun bt298 => ((clavierlaw08_flags.f k a2_0 l2_1).bind fun bt302 => ((clavierlaw08_made.f bt298.1 bt298.2).bind fun bt306 => ((clavierref08_Flags.f a1).bind fun t311 => ((stack_Put.f bt306.1 bt306.2 a1 2).bind fun bt312 => ((stack_Put.f bt312.1 bt312.2 a1 3).bind fun bt317 => ((stack_Put.f bt306.1 bt306.2 a1 4).bind fun bt322 => (if t297 = true then ((clavierlaw08_both.f k bt306.1 t311).bind fun t327 => (if bt312.1 = (wrap64 ((wrap64 (bt306.1 + t311)) - t327)) then ((clavierlaw08_both.f k bt306.1 t311).bind fun t328 => (if bt317.1 = (wrap64 (bt306.1 - t328)) then ((clavierlaw08_same.f k bt322.1 bt322.2 bt298.1 bt298.2).bind fun t329 => (if t329 = true then ((clavierlaw08_made.f bt302.1 bt302.2).bind fun bt330 => ((stack_Same.f k bt306.1 bt306.2 bt330.1 bt330.2).bind fun t334 => ((clavierref08_Same.f k bt298.1 bt298.2 bt302.1 bt302.2).bind fun t335 => (if (t334 == t335) = true then ((stack_Put.f bt312.1 bt312.2 0 1).bind fun bt336 => ((stack_Put.f bt306.1 bt306.2 0 1).bind fun bt340 => ((stack_Same.f k bt336.1 bt336.2 bt340.1 bt340.2).bind fun t344 => (some t344)))) else (none))))) else (none))) else (none))) else (none))) else (none)))))))))) = some r := h
  clear h
  replace H := Option.bind_eq_some_iff.mp H
  obtain ⟨t297, A40, H⟩ := H
  replace H : ((clavierlaw08_flags.f k a0_0 l0_1).bind fun bt298 => ((clavierlaw08_flags.f k a2_0 l2_1).bind fun bt302 => ((clavierlaw08_made.f bt298.1 bt298.2).bind fun bt306 => ((clavierref08_Flags.f a1).bind fun t311 => ((stack_Put.f bt306.1 bt306.2 a1 2).bind fun bt312 => ((stack_Put.f bt312.1 bt312.2 a1 3).bind fun bt317 => ((stack_Put.f bt306.1 bt306.2 a1 4).bind fun bt322 => (if t297 = true then ((clavierlaw08_both.f k bt306.1 t311).bind fun t327 => (if bt312.1 = (wrap64 ((wrap64 (bt306.1 + t311)) - t327)) then ((clavierlaw08_both.f k bt306.1 t311).bind fun t328 => (if bt317.1 = (wrap64 (bt306.1 - t328)) then ((clavierlaw08_same.f k bt322.1 bt322.2 bt298.1 bt298.2).bind fun t329 => (if t329 = true then ((clavierlaw08_made.f bt302.1 bt302.2).bind fun bt330 => ((stack_Same.f k bt306.1 bt306.2 bt330.1 bt330.2).bind fun t334 => ((clavierref08_Same.f k bt298.1 bt298.2 bt302.1 bt302.2).bind fun t335 => (if (t334 == t335) = true then ((stack_Put.f bt312.1 bt312.2 0 1).bind fun bt336 => ((stack_Put.f bt306.1 bt306.2 0 1).bind fun bt340 => ((stack_Same.f k bt336.1 bt336.2 bt340.1 bt340.2).bind fun t344 => (some t344)))) else (none))))) else (none))) else (none))) else (none))) else (none))))))))) = some r := H
  have A4 := Aside0.mk A40
  clear A40
  replace H := Option.bind_eq_some_iff.mp H
  obtain ⟨⟨t298, t299⟩, A50, H⟩ := H
  replace H : ((clavierlaw08_flags.f k a2_0 l2_1).bind fun bt302 => ((clavierlaw08_made.f t298 t299).bind fun bt306 => ((clavierref08_Flags.f a1).bind fun t311 => ((stack_Put.f bt306.1 bt306.2 a1 2).bind fun bt312 => ((stack_Put.f bt312.1 bt312.2 a1 3).bind fun bt317 => ((stack_Put.f bt306.1 bt306.2 a1 4).bind fun bt322 => (if t297 = true then ((clavierlaw08_both.f k bt306.1 t311).bind fun t327 => (if bt312.1 = (wrap64 ((wrap64 (bt306.1 + t311)) - t327)) then ((clavierlaw08_both.f k bt306.1 t311).bind fun t328 => (if bt317.1 = (wrap64 (bt306.1 - t328)) then ((clavierlaw08_same.f k bt322.1 bt322.2 t298 t299).bind fun t329 => (if t329 = true then ((clavierlaw08_made.f bt302.1 bt302.2).bind fun bt330 => ((stack_Same.f k bt306.1 bt306.2 bt330.1 bt330.2).bind fun t334 => ((clavierref08_Same.f k t298 t299 bt302.1 bt302.2).bind fun t335 => (if (t334 == t335) = true then ((stack_Put.f bt312.1 bt312.2 0 1).bind fun bt336 => ((stack_Put.f bt306.1 bt306.2 0 1).bind fun bt340 => ((stack_Same.f k bt336.1 bt336.2 bt340.1 bt340.2).bind fun t344 => (some t344)))) else (none))))) else (none))) else (none))) else (none))) else (none)))))))) = some r := H
  have A5 := Aside0.mk A50
  clear A50
  replace H := Option.bind_eq_some_iff.mp H
  obtain ⟨⟨t302, t303⟩, A60, H⟩ := H
  replace H : ((clavierlaw08_made.f t298 t299).bind fun bt306 => ((clavierref08_Flags.f a1).bind fun t311 => ((stack_Put.f bt306.1 bt306.2 a1 2).bind fun bt312 => ((stack_Put.f bt312.1 bt312.2 a1 3).bind fun bt317 => ((stack_Put.f bt306.1 bt306.2 a1 4).bind fun bt322 => (if t297 = true then ((clavierlaw08_both.f k bt306.1 t311).bind fun t327 => (if bt312.1 = (wrap64 ((wrap64 (bt306.1 + t311)) - t327)) then ((clavierlaw08_both.f k bt306.1 t311).bind fun t328 => (if bt317.1 = (wrap64 (bt306.1 - t328)) then ((clavierlaw08_same.f k bt322.1 bt322.2 t298 t299).bind fun t329 => (if t329 = true then ((clavierlaw08_made.f t302 t303).bind fun bt330 => ((stack_Same.f k bt306.1 bt306.2 bt330.1 bt330.2).bind fun t334 => ((clavierref08_Same.f k t298 t299 t302 t303).bind fun t335 => (if (t334 == t335) = true then ((stack_Put.f bt312.1 bt312.2 0 1).bind fun bt336 => ((stack_Put.f bt306.1 bt306.2 0 1).bind fun bt340 => ((stack_Same.f k bt336.1 bt336.2 bt340.1 bt340.2).bind fun t344 => (some t344)))) else (none))))) else (none))) else (none))) else (none))) else (none))))))) = some r := H
  have A6 := Aside0.mk A60
  clear A60
  replace H := Option.bind_eq_some_iff.mp H
  obtain ⟨⟨t306, t307⟩, A70, H⟩ := H
  replace H : ((clavierref08_Flags.f a1).bind fun t311 => ((stack_Put.f t306 t307 a1 2).bind fun bt312 => ((stack_Put.f bt312.1 bt312.2 a1 3).bind fun bt317 => ((stack_Put.f t306 t307 a1 4).bind fun bt322 => (if t297 = true then ((clavierlaw08_both.f k t306 t311).bind fun t327 => (if bt312.1 = (wrap64 ((wrap64 (t306 + t311)) - t327)) then ((clavierlaw08_both.f k t306 t311).bind fun t328 => (if bt317.1 = (wrap64 (t306 - t328)) then ((clavierlaw08_same.f k bt322.1 bt322.2 t298 t299).bind fun t329 => (if t329 = true then ((clavierlaw08_made.f t302 t303).bind fun bt330 => ((stack_Same.f k t306 t307 bt330.1 bt330.2).bind fun t334 => ((clavierref08_Same.f k t298 t299 t302 t303).bind fun t335 => (if (t334 == t335) = true then ((stack_Put.f bt312.1 bt312.2 0 1).bind fun bt336 => ((stack_Put.f t306 t307 0 1).bind fun bt340 => ((stack_Same.f k bt336.1 bt336.2 bt340.1 bt340.2).bind fun t344 => (some t344)))) else (none))))) else (none))) else (none))) else (none))) else (none)))))) = some r := H
  have A7 := Aside0.mk A70
  clear A70
  replace H := Option.bind_eq_some_iff.mp H
  obtain ⟨t311, A80, H⟩ := H
  replace H : ((stack_Put.f t306 t307 a1 2).bind fun bt312 => ((stack_Put.f bt312.1 bt312.2 a1 3).bind fun bt317 => ((stack_Put.f t306 t307 a1 4).bind fun bt322 => (if t297 = true then ((clavierlaw08_both.f k t306 t311).bind fun t327 => (if bt312.1 = (wrap64 ((wrap64 (t306 + t311)) - t327)) then ((clavierlaw08_both.f k t306 t311).bind fun t328 => (if bt317.1 = (wrap64 (t306 - t328)) then ((clavierlaw08_same.f k bt322.1 bt322.2 t298 t299).bind fun t329 => (if t329 = true then ((clavierlaw08_made.f t302 t303).bind fun bt330 => ((stack_Same.f k t306 t307 bt330.1 bt330.2).bind fun t334 => ((clavierref08_Same.f k t298 t299 t302 t303).bind fun t335 => (if (t334 == t335) = true then ((stack_Put.f bt312.1 bt312.2 0 1).bind fun bt336 => ((stack_Put.f t306 t307 0 1).bind fun bt340 => ((stack_Same.f k bt336.1 bt336.2 bt340.1 bt340.2).bind fun t344 => (some t344)))) else (none))))) else (none))) else (none))) else (none))) else (none))))) = some r := H
  have A8 := Aside0.mk A80
  clear A80
  replace H := Option.bind_eq_some_iff.mp H
  obtain ⟨⟨t312, t313⟩, A90, H⟩ := H
  replace H : ((stack_Put.f t312 t313 a1 3).bind fun bt317 => ((stack_Put.f t306 t307 a1 4).bind fun bt322 => (if t297 = true then ((clavierlaw08_both.f k t306 t311).bind fun t327 => (if t312 = (wrap64 ((wrap64 (t306 + t311)) - t327)) then ((clavierlaw08_both.f k t306 t311).bind fun t328 => (if bt317.1 = (wrap64 (t306 - t328)) then ((clavierlaw08_same.f k bt322.1 bt322.2 t298 t299).bind fun t329 => (if t329 = true then ((clavierlaw08_made.f t302 t303).bind fun bt330 => ((stack_Same.f k t306 t307 bt330.1 bt330.2).bind fun t334 => ((clavierref08_Same.f k t298 t299 t302 t303).bind fun t335 => (if (t334 == t335) = true then ((stack_Put.f t312 t313 0 1).bind fun bt336 => ((stack_Put.f t306 t307 0 1).bind fun bt340 => ((stack_Same.f k bt336.1 bt336.2 bt340.1 bt340.2).bind fun t344 => (some t344)))) else (none))))) else (none))) else (none))) else (none))) else (none)))) = some r := H
  have A9 := Aside0.mk A90
  clear A90
  replace H := Option.bind_eq_some_iff.mp H
  obtain ⟨⟨t317, t318⟩, A100, H⟩ := H
  replace H : ((stack_Put.f t306 t307 a1 4).bind fun bt322 => (if t297 = true then ((clavierlaw08_both.f k t306 t311).bind fun t327 => (if t312 = (wrap64 ((wrap64 (t306 + t311)) - t327)) then ((clavierlaw08_both.f k t306 t311).bind fun t328 => (if t317 = (wrap64 (t306 - t328)) then ((clavierlaw08_same.f k bt322.1 bt322.2 t298 t299).bind fun t329 => (if t329 = true then ((clavierlaw08_made.f t302 t303).bind fun bt330 => ((stack_Same.f k t306 t307 bt330.1 bt330.2).bind fun t334 => ((clavierref08_Same.f k t298 t299 t302 t303).bind fun t335 => (if (t334 == t335) = true then ((stack_Put.f t312 t313 0 1).bind fun bt336 => ((stack_Put.f t306 t307 0 1).bind fun bt340 => ((stack_Same.f k bt336.1 bt336.2 bt340.1 bt340.2).bind fun t344 => (some t344)))) else (none))))) else (none))) else (none))) else (none))) else (none))) = some r := H
  have A10 := Aside0.mk A100
  clear A100
  replace H := Option.bind_eq_some_iff.mp H
  obtain ⟨⟨t322, t323⟩, A110, H⟩ := H
  replace H : (if t297 = true then ((clavierlaw08_both.f k t306 t311).bind fun t327 => (if t312 = (wrap64 ((wrap64 (t306 + t311)) - t327)) then ((clavierlaw08_both.f k t306 t311).bind fun t328 => (if t317 = (wrap64 (t306 - t328)) then ((clavierlaw08_same.f k t322 t323 t298 t299).bind fun t329 => (if t329 = true then ((clavierlaw08_made.f t302 t303).bind fun bt330 => ((stack_Same.f k t306 t307 bt330.1 bt330.2).bind fun t334 => ((clavierref08_Same.f k t298 t299 t302 t303).bind fun t335 => (if (t334 == t335) = true then ((stack_Put.f t312 t313 0 1).bind fun bt336 => ((stack_Put.f t306 t307 0 1).bind fun bt340 => ((stack_Same.f k bt336.1 bt336.2 bt340.1 bt340.2).bind fun t344 => (some t344)))) else (none))))) else (none))) else (none))) else (none))) else (none)) = some r := H
  have A11 := Aside0.mk A110
  clear A110
  by_cases c12 : t297 = true
  · subst c12
    have H1 : ((clavierlaw08_both.f k t306 t311).bind fun t327 => (if t312 = (wrap64 ((wrap64 (t306 + t311)) - t327)) then ((clavierlaw08_both.f k t306 t311).bind fun t328 => (if t317 = (wrap64 (t306 - t328)) then ((clavierlaw08_same.f k t322 t323 t298 t299).bind fun t329 => (if t329 = true then ((clavierlaw08_made.f t302 t303).bind fun bt330 => ((stack_Same.f k t306 t307 bt330.1 bt330.2).bind fun t334 => ((clavierref08_Same.f k t298 t299 t302 t303).bind fun t335 => (if (t334 == t335) = true then ((stack_Put.f t312 t313 0 1).bind fun bt336 => ((stack_Put.f t306 t307 0 1).bind fun bt340 => ((stack_Same.f k bt336.1 bt336.2 bt340.1 bt340.2).bind fun t344 => (some t344)))) else (none))))) else (none))) else (none))) else (none))) = some r := by rw [if_pos rfl] at H; exact H
    clear H
    have H := H1
    clear H1
    replace H := Option.bind_eq_some_iff.mp H
    obtain ⟨t327, A130, H⟩ := H
    replace H : (if t312 = (wrap64 ((wrap64 (t306 + t311)) - t327)) then ((clavierlaw08_both.f k t306 t311).bind fun t328 => (if t317 = (wrap64 (t306 - t328)) then ((clavierlaw08_same.f k t322 t323 t298 t299).bind fun t329 => (if t329 = true then ((clavierlaw08_made.f t302 t303).bind fun bt330 => ((stack_Same.f k t306 t307 bt330.1 bt330.2).bind fun t334 => ((clavierref08_Same.f k t298 t299 t302 t303).bind fun t335 => (if (t334 == t335) = true then ((stack_Put.f t312 t313 0 1).bind fun bt336 => ((stack_Put.f t306 t307 0 1).bind fun bt340 => ((stack_Same.f k bt336.1 bt336.2 bt340.1 bt340.2).bind fun t344 => (some t344)))) else (none))))) else (none))) else (none))) else (none)) = some r := H
    have A13 := Aside0.mk A130
    clear A130
    by_cases c14 : t312 = (wrap64 ((wrap64 (t306 + t311)) - t327))
    · rw [if_pos c14] at H
      have c14b0 : (t312 == (wrap64 ((wrap64 (t306 + t311)) - t327))) = true := beq_iff_eq.mpr c14
      have c14b1 : (t312 != (wrap64 ((wrap64 (t306 + t311)) - t327))) = false := bne_eq_false_iff_eq.mpr c14
      clear c14
      replace H := Option.bind_eq_some_iff.mp H
      obtain ⟨t328, A150, H⟩ := H
      replace H : (if t317 = (wrap64 (t306 - t328)) then ((clavierlaw08_same.f k t322 t323 t298 t299).bind fun t329 => (if t329 = true then ((clavierlaw08_made.f t302 t303).bind fun bt330 => ((stack_Same.f k t306 t307 bt330.1 bt330.2).bind fun t334 => ((clavierref08_Same.f k t298 t299 t302 t303).bind fun t335 => (if (t334 == t335) = true then ((stack_Put.f t312 t313 0 1).bind fun bt336 => ((stack_Put.f t306 t307 0 1).bind fun bt340 => ((stack_Same.f k bt336.1 bt336.2 bt340.1 bt340.2).bind fun t344 => (some t344)))) else (none))))) else (none))) else (none)) = some r := H
      have A15 := Aside0.mk A150
      clear A150
      by_cases c16 : t317 = (wrap64 (t306 - t328))
      · rw [if_pos c16] at H
        have c16b0 : (t317 == (wrap64 (t306 - t328))) = true := beq_iff_eq.mpr c16
        have c16b1 : (t317 != (wrap64 (t306 - t328))) = false := bne_eq_false_iff_eq.mpr c16
        clear c16
        replace H := Option.bind_eq_some_iff.mp H
        obtain ⟨t329, A170, H⟩ := H
        replace H : (if t329 = true then ((clavierlaw08_made.f t302 t303).bind fun bt330 => ((stack_Same.f k t306 t307 bt330.1 bt330.2).bind fun t334 => ((clavierref08_Same.f k t298 t299 t302 t303).bind fun t335 => (if (t334 == t335) = true then ((stack_Put.f t312 t313 0 1).bind fun bt336 => ((stack_Put.f t306 t307 0 1).bind fun bt340 => ((stack_Same.f k bt336.1 bt336.2 bt340.1 bt340.2).bind fun t344 => (some t344)))) else (none))))) else (none)) = some r := H
        have A17 := Aside0.mk A170
        clear A170
        by_cases c18 : t329 = true
        · subst c18
          have H1 : ((clavierlaw08_made.f t302 t303).bind fun bt330 => ((stack_Same.f k t306 t307 bt330.1 bt330.2).bind fun t334 => ((clavierref08_Same.f k t298 t299 t302 t303).bind fun t335 => (if (t334 == t335) = true then ((stack_Put.f t312 t313 0 1).bind fun bt336 => ((stack_Put.f t306 t307 0 1).bind fun bt340 => ((stack_Same.f k bt336.1 bt336.2 bt340.1 bt340.2).bind fun t344 => (some t344)))) else (none))))) = some r := by rw [if_pos rfl] at H; exact H
          clear H
          have H := H1
          clear H1
          replace H := Option.bind_eq_some_iff.mp H
          obtain ⟨⟨t330, t331⟩, A190, H⟩ := H
          replace H : ((stack_Same.f k t306 t307 t330 t331).bind fun t334 => ((clavierref08_Same.f k t298 t299 t302 t303).bind fun t335 => (if (t334 == t335) = true then ((stack_Put.f t312 t313 0 1).bind fun bt336 => ((stack_Put.f t306 t307 0 1).bind fun bt340 => ((stack_Same.f k bt336.1 bt336.2 bt340.1 bt340.2).bind fun t344 => (some t344)))) else (none)))) = some r := H
          have A19 := Aside0.mk A190
          clear A190
          replace H := Option.bind_eq_some_iff.mp H
          obtain ⟨t334, A200, H⟩ := H
          replace H : ((clavierref08_Same.f k t298 t299 t302 t303).bind fun t335 => (if (t334 == t335) = true then ((stack_Put.f t312 t313 0 1).bind fun bt336 => ((stack_Put.f t306 t307 0 1).bind fun bt340 => ((stack_Same.f k bt336.1 bt336.2 bt340.1 bt340.2).bind fun t344 => (some t344)))) else (none))) = some r := H
          have A20 := Aside0.mk A200
          clear A200
          replace H := Option.bind_eq_some_iff.mp H
          obtain ⟨t335, A210, H⟩ := H
          replace H : (if (t334 == t335) = true then ((stack_Put.f t312 t313 0 1).bind fun bt336 => ((stack_Put.f t306 t307 0 1).bind fun bt340 => ((stack_Same.f k bt336.1 bt336.2 bt340.1 bt340.2).bind fun t344 => (some t344)))) else (none)) = some r := H
          have A21 := Aside0.mk A210
          clear A210
          by_cases c22 : (t334 == t335) = true
          · rw [if_pos c22] at H
            have c22b0 : (t334 == t335) = true := c22
            (try (have c22b1 : decide (t334 = t335) = true := by simpa using c22))
            (try (have c22b2 : (t334 == t335) = true := by simpa using c22))
            clear c22
            replace H := Option.bind_eq_some_iff.mp H
            obtain ⟨⟨t336, t337⟩, A230, H⟩ := H
            replace H : ((stack_Put.f t306 t307 0 1).bind fun bt340 => ((stack_Same.f k t336 t337 bt340.1 bt340.2).bind fun t344 => (some t344))) = some r := H
            have A23 := Aside0.mk A230
            clear A230
            replace H := Option.bind_eq_some_iff.mp H
            obtain ⟨⟨t340, t341⟩, A240, H⟩ := H
            replace H : ((stack_Same.f k t336 t337 t340 t341).bind fun t344 => (some t344)) = some r := H
            have A24 := Aside0.mk A240
            clear A240
            replace H := Option.bind_eq_some_iff.mp H
            obtain ⟨t344, A250, H⟩ := H
            replace H : (some t344) = some r := H
            have A25 := Aside0.mk A250
            clear A250
            obtain rfl := Option.some.inj H
            go_enter Try.func7, Try.ntmps7
            try go_wp2_with (first | ((with_reducible refine gate_dst (N := 3) rfl ?_); refine box_event ?hg (N := 3) ?hd (cs := #[.int .i64 a0_0, .slice A0_1 l0_1.length c0_1]) (t := 24) ?hr ?_; (case hd => rfl); (case hg => rfl); (case hr => first | (go_simp; done) | (go_simp; rfl)); intro gb295 hg w26 hbox hb; have n0_ := Aside0.mk (below_step (by repeat (first | (with_reducible first | exact HB.out | apply below_alloc | apply pw_below_drewN | apply below_drew1) | exact HB.out)) hb); have n1_ := Aside0.mk (hbox); have n2_ := Aside0.mk ((by rw [hg]; exact (below_size (by repeat (first | (with_reducible first | exact HB.out | apply below_alloc | apply pw_below_drewN | apply below_drew1) | exact HB.out))) : w.heap.size ≤ gb295)); have n3_ := Aside0.mk ((by rw [hg]; exact (below_size (by repeat (first | (with_reducible first | exact HB.out | apply below_alloc | apply pw_below_drewN | apply below_drew1) | exact HB.out))) : w.heap.size ≤ gb295)); clear HB; have HB := n0_; have BK295 := n1_; have GW295 := n2_; have GE295 := n3_; clear n0_ n1_ n2_ n3_; clear hb hbox hg) | ((with_reducible refine gate_dst (N := 5) rfl ?_); refine box_event ?hg (N := 5) ?hd (cs := #[.int .i64 a2_0, .slice A2_1 l2_1.length c2_1]) (t := 24) ?hr ?_; (case hd => rfl); (case hg => rfl); (case hr => first | (go_simp; done) | (go_simp; rfl)); intro gb296 hg w27 hbox hb; have n0_ := Aside0.mk (blk_below (g := gb295) (o := .cells #[.int .i64 a0_0, .slice A0_1 l0_1.length c0_1] 24 (0, 0)) (by (with_reducible repeat (first | refine blk_drewN ?_ _ | refine blk_drew ?_ | refine blk_alloc ?_ _)); exact BK295.out) hb); have n1_ := Aside0.mk (below_step (by repeat (first | (with_reducible first | exact HB.out | apply below_alloc | apply pw_below_drewN | apply below_drew1 | refine below_set ?_ GE295.out) | exact HB.out)) hb); have n2_ := Aside0.mk (hbox); have n3_ := Aside0.mk ((by rw [hg]; exact (below_size (by repeat (first | (with_reducible first | exact HB.out | apply below_alloc | apply pw_below_drewN | apply below_drew1 | refine below_set ?_ GE295.out) | exact HB.out))) : w.heap.size ≤ gb296)); have n4_ := Aside0.mk ((by rw [hg]; exact (below_size (by repeat (first | (with_reducible first | exact HB.out | apply below_alloc | apply pw_below_drewN | apply below_drew1 | refine below_set ?_ GE295.out) | exact HB.out))) : w.heap.size ≤ gb296)); have n5_ := Aside0.mk ((by rw [hg]; exact Nat.ne_of_lt (blk_lt (g := gb295) (o := .cells #[.int .i64 a0_0, .slice A0_1 l0_1.length c0_1] 24 (0, 0)) (by (with_reducible repeat (first | refine blk_drewN ?_ _ | refine blk_drew ?_ | refine blk_alloc ?_ _)); exact BK295.out)) : gb295 ≠ gb296)); have n6_ := Aside0.mk ((by rw [hg]; exact Nat.ne_of_gt (blk_lt (g := gb295) (o := .cells #[.int .i64 a0_0, .slice A0_1 l0_1.length c0_1] 24 (0, 0)) (by (with_reducible repeat (first | refine blk_drewN ?_ _ | refine blk_drew ?_ | refine blk_alloc ?_ _)); exact BK295.out)) : gb296 ≠ gb295)); clear BK295; clear HB; have BK295 := n0_; have HB := n1_; have BK296 := n2_; have GW296 := n3_; have GE296 := n4_; have NB295_296 := n5_; have NB296_295 := n6_; clear n0_ n1_ n2_ n3_ n4_ n5_ n6_; clear hb hbox hg) | ((with_reducible refine gate_callee (f := 9) rfl ?_); refine goesL_ (some 13) rfl rfl Try.func9 (by kernel_rfl) rfl #[] rfl (by (try simp only [List.map_toArray, List.map_cons, List.map_nil]); first | done | rfl | (simp only [List.length_drop, List.length_take]; rfl)) ?_; (with_reducible refine (clavierlaw08_awake.calls  true _ A4.out).mono ?_); rintro e w28 ⟨rfl, hb⟩; refine ⟨_, rfl, ?_⟩; have n0_ := Aside0.mk (blk_below (g := gb295) (o := .cells #[.int .i64 a0_0, .slice A0_1 l0_1.length c0_1] 24 (0, 0)) (by (with_reducible repeat (first | refine blk_drewN ?_ _ | refine blk_drew ?_ | refine blk_alloc ?_ _)); exact BK295.out) hb); have n1_ := Aside0.mk (blk_below (g := gb296) (o := .cells #[.int .i64 a2_0, .slice A2_1 l2_1.length c2_1] 24 (0, 0)) (by (with_reducible repeat (first | refine blk_drewN ?_ _ | refine blk_drew ?_ | refine blk_alloc ?_ _)); exact BK296.out) hb); have n2_ := Aside0.mk (below_step (by repeat (first | (with_reducible first | exact HB.out | apply below_alloc | apply pw_below_drewN | apply below_drew1 | refine below_set ?_ GE295.out | refine below_set ?_ GE296.out) | exact HB.out)) hb); clear BK295; clear BK296; clear HB; have BK295 := n0_; have BK296 := n1_; have HB := n2_; clear n0_ n1_ n2_; (try clear hb); (try clear hb2); (try clear hk); (try clear hi); have hnb29 := NB295_296.out; have hnc29 := NB296_295.out; have hcz30_0 : w28.cell? ⟨gb295, 0, none⟩ = some (.int .i64 a0_0) := (blk_cell BK295.out 0).trans rfl; have hcz30_1 : w28.cell? ⟨gb295, 1, none⟩ = some (.slice A0_1 l0_1.length c0_1) := (blk_cell BK295.out 1).trans rfl; have hfz30_0 := blk_frozen BK295.out 0; have hfz30_1 := blk_frozen BK295.out 1) | ((with_reducible refine gate_callee (f := 10) rfl ?_); refine goesL_ (some 15) rfl rfl Try.func10 (by kernel_rfl) rfl #[.agg #[.int .i64 a0_0, .slice A0_1 l0_1.length c0_1]] rfl (by (try simp only [List.map_toArray, List.map_cons, List.map_nil]); first | done | rfl | (simp only [List.length_drop, List.length_take]; rfl)) ?_; (with_reducible refine (clavierlaw08_flags.calls k a0_0 _ _ l0_1 t298 t299 _ ?side1 ?side2 A5.out).mono ?_); (case side1 => repeat (first | exact (Kd.C_below HR0_1.out HB.out) | (with_reducible refine Kd.C_alloc ?_ _) | (with_reducible refine Kd.C_drewN ?_ _) | (with_reducible refine Kd.C_drew ?_))); (case side2 => exact HC0_1.out); rintro e w31 ⟨v300, rfl, ho0, hb⟩; refine ⟨_, rfl, ?_⟩; have n0_ := Aside0.mk (Kd.R_lower ho0 (below_size (by repeat (first | (with_reducible first | exact HB.out | apply below_alloc | apply pw_below_drewN | apply below_drew1 | refine below_set ?_ GE295.out | refine below_set ?_ GE296.out) | exact HB.out)))); have n1_ := Aside0.mk (blk_below (g := gb295) (o := .cells #[.int .i64 a0_0, .slice A0_1 l0_1.length c0_1] 24 (0, 0)) (by (with_reducible repeat (first | refine blk_drewN ?_ _ | refine blk_drew ?_ | refine blk_alloc ?_ _)); exact BK295.out) hb); have n2_ := Aside0.mk (blk_below (g := gb296) (o := .cells #[.int .i64 a2_0, .slice A2_1 l2_1.length c2_1] 24 (0, 0)) (by (with_reducible repeat (first | refine blk_drewN ?_ _ | refine blk_drew ?_ | refine blk_alloc ?_ _)); exact BK296.out) hb); have n3_ := Aside0.mk (below_step (by repeat (first | (with_reducible first | exact HB.out | apply below_alloc | apply pw_below_drewN | apply below_drew1 | refine below_set ?_ GE295.out | refine below_set ?_ GE296.out) | exact HB.out)) hb); clear BK295; clear BK296; clear HB; have HO301 := n0_; have BK295 := n1_; have BK296 := n2_; have HB := n3_; clear n0_ n1_ n2_ n3_; (try clear hb); (try clear hb2); (try clear hk); (try clear hi); (try clear ho0); have hcz32_0 : w31.cell? ⟨gb295, 0, none⟩ = some (.int .i64 a0_0) := (blk_cell BK295.out 0).trans rfl; have hcz32_1 : w31.cell? ⟨gb295, 1, none⟩ = some (.slice A0_1 l0_1.length c0_1) := (blk_cell BK295.out 1).trans rfl; have hfz32_0 := blk_frozen BK295.out 0; have hfz32_1 := blk_frozen BK295.out 1; obtain ⟨Ao33, co33, eo33⟩ := Kd.R_slice HO301.out; subst eo33; have hcz34_0 : w31.cell? ⟨gb296, 0, none⟩ = some (.int .i64 a2_0) := (blk_cell BK296.out 0).trans rfl; have hcz34_1 : w31.cell? ⟨gb296, 1, none⟩ = some (.slice A2_1 l2_1.length c2_1) := (blk_cell BK296.out 1).trans rfl; have hfz34_0 := blk_frozen BK296.out 0; have hfz34_1 := blk_frozen BK296.out 1) | ((with_reducible refine gate_callee (f := 10) rfl ?_); refine goesL_ (some 17) rfl rfl Try.func10 (by kernel_rfl) rfl #[.agg #[.int .i64 a2_0, .slice A2_1 l2_1.length c2_1]] rfl (by (try simp only [List.map_toArray, List.map_cons, List.map_nil]); first | done | rfl | (simp only [List.length_drop, List.length_take]; rfl)) ?_; (with_reducible refine (clavierlaw08_flags.calls k a2_0 _ _ l2_1 t302 t303 _ ?side1 ?side2 A6.out).mono ?_); (case side1 => exact Kd.C_below HR2_1.out (by repeat (first | (with_reducible first | exact HB.out | apply below_alloc | apply pw_below_drewN | apply below_drew1 | refine below_set ?_ GE295.out | refine below_set ?_ GE296.out) | exact HB.out))); (case side2 => exact HC2_1.out); rintro e w35 ⟨v304, rfl, ho0, hb⟩; refine ⟨_, rfl, ?_⟩; have n0_ := Aside0.mk (Kd.R_elder' (by (with_reducible repeat (first | apply Kd.R_alloc | apply Kd.R_drewN | apply Kd.R_drew)); exact (Kd.R_mono (Kd.R_far (p := ⟨gb295, 1, none⟩) (Kd.R_far (p := ⟨gb295, 0, none⟩) (Kd.R_types HO301.out BK295.out (by decide)) (fun _ hk => hk.2) (.int .i64 t298)) (fun _ hk => hk.2) (.slice Ao33 t299.length co33)) (fun _ h_ => h_.1))) (Kd.R_base ho0) hb); have n1_ := Aside0.mk (Kd.R_lower (Kd.R_new' ho0 (Kd.R_lt (by (with_reducible repeat (first | apply Kd.R_alloc | apply Kd.R_drewN | apply Kd.R_drew)); exact (Kd.R_mono (Kd.R_far (p := ⟨gb295, 1, none⟩) (Kd.R_far (p := ⟨gb295, 0, none⟩) (Kd.R_types HO301.out BK295.out (by decide)) (fun _ hk => hk.2) (.int .i64 t298)) (fun _ hk => hk.2) (.slice Ao33 t299.length co33)) (fun _ h_ => h_.1))))) (below_size (by repeat (first | (with_reducible first | exact HB.out | apply below_alloc | apply pw_below_drewN | apply below_drew1 | refine below_set ?_ GE295.out | refine below_set ?_ GE296.out) | exact HB.out)))); have n2_ := Aside0.mk (blk_below (g := gb295) (o := .cells #[.int .i64 t298, .slice Ao33 t299.length co33] 24 (0, 0)) (by (with_reducible repeat (first | refine blk_drewN ?_ _ | refine blk_drew ?_ | refine blk_alloc ?_ _)); refine blk_put (cs := #[.int .i64 t298, .slice A0_1 l0_1.length c0_1]) ?_ 1 _ rfl; (with_reducible repeat (first | refine blk_drewN ?_ _ | refine blk_drew ?_ | refine blk_alloc ?_ _)); refine blk_put (cs := #[.int .i64 a0_0, .slice A0_1 l0_1.length c0_1]) ?_ 0 _ rfl; (with_reducible repeat (first | refine blk_drewN ?_ _ | refine blk_drew ?_ | refine blk_alloc ?_ _)); exact BK295.out) hb); have n3_ := Aside0.mk (blk_below (g := gb296) (o := .cells #[.int .i64 a2_0, .slice A2_1 l2_1.length c2_1] 24 (0, 0)) (by (with_reducible repeat (first | refine blk_drewN ?_ _ | refine blk_drew ?_ | refine blk_alloc ?_ _)); refine blk_far ?_ NB296_295.out _; (with_reducible repeat (first | refine blk_drewN ?_ _ | refine blk_drew ?_ | refine blk_alloc ?_ _)); refine blk_far ?_ NB296_295.out _; (with_reducible repeat (first | refine blk_drewN ?_ _ | refine blk_drew ?_ | refine blk_alloc ?_ _)); exact BK296.out) hb); have n4_ := Aside0.mk (below_step (by repeat (first | (with_reducible first | exact HB.out | apply below_alloc | apply pw_below_drewN | apply below_drew1 | refine below_set ?_ GE295.out | refine below_set ?_ GE296.out) | exact HB.out)) hb); clear HO301; clear BK295; clear BK296; clear HB; have HO301 := n0_; have HO305 := n1_; have BK295 := n2_; have BK296 := n3_; have HB := n4_; clear n0_ n1_ n2_ n3_ n4_; (try clear hb); (try clear hb2); (try clear hk); (try clear hi); (try clear ho0); have hcz36_0 : w35.cell? ⟨gb296, 0, none⟩ = some (.int .i64 a2_0) := (blk_cell BK296.out 0).trans rfl; have hcz36_1 : w35.cell? ⟨gb296, 1, none⟩ = some (.slice A2_1 l2_1.length c2_1) := (blk_cell BK296.out 1).trans rfl; have hfz36_0 := blk_frozen BK296.out 0; have hfz36_1 := blk_frozen BK296.out 1; obtain ⟨Ao37, co37, eo37⟩ := Kd.R_slice HO305.out; subst eo37) | ((with_reducible refine gate_store (t := 24) (p := 5) rfl ?_); refine store_event (t := 24) (p := 5) (v := ?vo_w38) (w1 := ((w35.setCell ⟨gb296, 0, none⟩ (.int .i64 t302)).setCell ⟨gb296, 1, none⟩ (.slice Ao37 t303.length co37))) ?hg ?ho ?hn ?hr ?_; (case ho => rfl); (case hg => rfl); (case hn => rfl); (case hr => first | (go_simp; done) | (go_simp; rfl)); intro w38 hw; have n0_ : Aside0 (Kd.R (Kd.int .i64) 3 w38 w.heap.size (fun k_ => some k_ ≠ (.slice Ao37 t303.length co37 : Value).ownBlock) (.slice Ao33 t299.length co33) t299) := ⟨(by rw [hw]; exact (by (with_reducible repeat (first | apply Kd.R_alloc | apply Kd.R_drewN | apply Kd.R_drew)); exact Kd.R_mono (Kd.R_far (p := ⟨gb296, 1, none⟩) (Kd.R_far (p := ⟨gb296, 0, none⟩) (Kd.R_types HO301.out BK296.out (by decide)) (fun _ hk => hk.2) (.int .i64 t302)) (fun _ hk => hk.2) (.slice Ao37 t303.length co37)) (fun _ hk => hk.1.2)))⟩; have n1_ : Aside0 (Kd.R (Kd.int .i64) 3 w38 w.heap.size (fun k_ => some k_ ≠ (.slice Ao33 t299.length co33 : Value).ownBlock) (.slice Ao37 t303.length co37) t303) := ⟨(by rw [hw]; exact (by (with_reducible repeat (first | apply Kd.R_alloc | apply Kd.R_drewN | apply Kd.R_drew)); exact Kd.R_mono (Kd.R_far (p := ⟨gb296, 1, none⟩) (Kd.R_far (p := ⟨gb296, 0, none⟩) (Kd.R_types HO305.out BK296.out (by decide)) (fun _ hk => hk.2) (.int .i64 t302)) (fun _ hk => hk.2) (.slice Ao37 t303.length co37)) (fun _ hk => hk.1.2)))⟩; have n2_ : Aside0 (w38.heap[gb295]? = some (.cells #[.int .i64 t298, .slice Ao33 t299.length co33] 24 (0, 0))) := ⟨(by rw [hw]; exact (by (with_reducible repeat (first | refine blk_drewN ?_ _ | refine blk_drew ?_ | refine blk_alloc ?_ _)); refine blk_far ?_ NB295_296.out _; (with_reducible repeat (first | refine blk_drewN ?_ _ | refine blk_drew ?_ | refine blk_alloc ?_ _)); refine blk_far ?_ NB295_296.out _; (with_reducible repeat (first | refine blk_drewN ?_ _ | refine blk_drew ?_ | refine blk_alloc ?_ _)); exact BK295.out))⟩; have n3_ : Aside0 (w38.heap[gb296]? = some (.cells #[.int .i64 t302, .slice Ao37 t303.length co37] 24 (0, 0))) := ⟨(by rw [hw]; exact (by (with_reducible repeat (first | refine blk_drewN ?_ _ | refine blk_drew ?_ | refine blk_alloc ?_ _)); refine blk_put (cs := #[.int .i64 t302, .slice A2_1 l2_1.length c2_1]) ?_ 1 _ rfl; (with_reducible repeat (first | refine blk_drewN ?_ _ | refine blk_drew ?_ | refine blk_alloc ?_ _)); refine blk_put (cs := #[.int .i64 a2_0, .slice A2_1 l2_1.length c2_1]) ?_ 0 _ rfl; (with_reducible repeat (first | refine blk_drewN ?_ _ | refine blk_drew ?_ | refine blk_alloc ?_ _)); exact BK296.out))⟩; have n4_ : Aside0 (Below w.heap.size w w38) := ⟨(by rw [hw]; exact (by repeat (first | (with_reducible first | exact HB.out | apply below_alloc | apply pw_below_drewN | apply below_drew1 | refine below_set ?_ GE295.out | refine below_set ?_ GE296.out) | exact HB.out)))⟩; clear hw; clear HO301; clear HO305; clear BK295; clear BK296; clear HB; have HO301 := n0_; have HO305 := n1_; have BK295 := n2_; have BK296 := n3_; have HB := n4_; clear n0_ n1_ n2_ n3_ n4_; have hcz39_0 : w38.cell? ⟨gb295, 0, none⟩ = some (.int .i64 t298) := (blk_cell BK295.out 0).trans rfl; have hcz39_1 : w38.cell? ⟨gb295, 1, none⟩ = some (.slice Ao33 t299.length co33) := (blk_cell BK295.out 1).trans rfl; have hfz39_0 := blk_frozen BK295.out 0; have hfz39_1 := blk_frozen BK295.out 1) | ((with_reducible refine gate_callee (f := 11) rfl ?_); refine goesL_ (some 19) rfl rfl Try.func11 (by kernel_rfl) rfl #[.agg #[.int .i64 t298, .slice Ao33 t299.length co33]] rfl (by (try simp only [List.map_toArray, List.map_cons, List.map_nil]); first | done | rfl | (simp only [List.length_drop, List.length_take]; rfl)) ?_; (with_reducible refine (clavierlaw08_made.calls t298 (fun k_ => some k_ = (.slice Ao33 t299.length co33 : Value).ownBlock) _ _ t299 t306 t307 _ ?side1 A7.out).mono ?_); (case side1 => exact Kd.R_V (Kd.R_tight rfl (Kd.R_types (Kd.R_types (HO301.out) BK295.out (by decide)) BK296.out (by decide)))); rintro e w40 ⟨v308, rfl, ho0, hb⟩; refine ⟨_, rfl, ?_⟩; have n0_ := Aside0.mk (Kd.R_below (by (with_reducible repeat (first | apply Kd.R_alloc | apply Kd.R_drewN | apply Kd.R_drew)); exact HO301.out) hb); have n1_ := Aside0.mk (Kd.R_below (by (with_reducible repeat (first | apply Kd.R_alloc | apply Kd.R_drewN | apply Kd.R_drew)); exact HO305.out) hb); have n2_ := Aside0.mk (Kd.V_lower (Kd.V_mono (ok' := fun k_ => some k_ ≠ (.slice Ao37 t303.length co37 : Value).ownBlock ∧ k_ ≠ gb295 ∧ k_ ≠ gb296) ho0 (fun k_ hk_ => ⟨Or.elim hk_ (fun hs_ => ((Kd.R_types (Kd.R_types (HO301.out) BK295.out (by decide)) BK296.out (by decide)).1 k_ hs_.symm).1.1) (fun hn_ => (Kd.fresh' (Kd.R_lt (by (with_reducible repeat (first | apply Kd.R_alloc | apply Kd.R_drewN | apply Kd.R_drew)); exact HO305.out)) k_ hn_)), Or.elim hk_ (fun hs_ => ((Kd.R_types (Kd.R_types (HO301.out) BK295.out (by decide)) BK296.out (by decide)).1 k_ hs_.symm).1.2) (fun hn_ => (Kd.freshB (g := gb295) (o := .cells #[.int .i64 t298, .slice Ao33 t299.length co33] 24 (0, 0)) (by (with_reducible repeat (first | refine blk_drewN ?_ _ | refine blk_drew ?_ | refine blk_alloc ?_ _)); exact BK295.out) k_ hn_)), Or.elim hk_ (fun hs_ => ((Kd.R_types (Kd.R_types (HO301.out) BK295.out (by decide)) BK296.out (by decide)).1 k_ hs_.symm).2) (fun hn_ => (Kd.freshB (g := gb296) (o := .cells #[.int .i64 t302, .slice Ao37 t303.length co37] 24 (0, 0)) (by (with_reducible repeat (first | refine blk_drewN ?_ _ | refine blk_drew ?_ | refine blk_alloc ?_ _)); exact BK296.out) k_ hn_))⟩)) (below_size (by repeat (first | (with_reducible first | exact HB.out | apply below_alloc | apply pw_below_drewN | apply below_drew1 | refine below_set ?_ GE295.out | refine below_set ?_ GE296.out) | exact HB.out)))); have n3_ := Aside0.mk (blk_below (g := gb295) (o := .cells #[.int .i64 t298, .slice Ao33 t299.length co33] 24 (0, 0)) (by (with_reducible repeat (first | refine blk_drewN ?_ _ | refine blk_drew ?_ | refine blk_alloc ?_ _)); exact BK295.out) hb); have n4_ := Aside0.mk (blk_below (g := gb296) (o := .cells #[.int .i64 t302, .slice Ao37 t303.length co37] 24 (0, 0)) (by (with_reducible repeat (first | refine blk_drewN ?_ _ | refine blk_drew ?_ | refine blk_alloc ?_ _)); exact BK296.out) hb); have n5_ := Aside0.mk (below_step (by repeat (first | (with_reducible first | exact HB.out | apply below_alloc | apply pw_below_drewN | apply below_drew1 | refine below_set ?_ GE295.out | refine below_set ?_ GE296.out) | exact HB.out)) hb); clear HO301; clear HO305; clear BK295; clear BK296; clear HB; have HO301 := n0_; have HO305 := n1_; have HO309 := n2_; have BK295 := n3_; have BK296 := n4_; have HB := n5_; clear n0_ n1_ n2_ n3_ n4_ n5_; (try clear hb); (try clear hb2); (try clear hk); (try clear hi); (try clear ho0)) | ((with_reducible refine gate_dst (N := 8) rfl ?_); refine box_event ?hg (N := 8) ?hd (cs := #[.int .i64 0, .slice none 0 0]) (t := 27) ?hr ?_; (case hd => rfl); (case hg => rfl); (case hr => first | (go_simp; done) | (go_simp; rfl)); intro gb310 hg w41 hbox hb; have n0_ := Aside0.mk (Kd.R_below (by (with_reducible repeat (first | apply Kd.R_alloc | apply Kd.R_drewN | apply Kd.R_drew)); exact HO301.out) hb); have n1_ := Aside0.mk (Kd.R_below (by (with_reducible repeat (first | apply Kd.R_alloc | apply Kd.R_drewN | apply Kd.R_drew)); exact HO305.out) hb); have n2_ := Aside0.mk (Kd.V_below (Kd.V_elderB (by (with_reducible repeat (first | apply Kd.V_alloc | apply Kd.V_drewN | apply Kd.V_drew)); exact HO309.out) gb310 (Nat.le_of_eq hg.symm)) hb); have n3_ := Aside0.mk (blk_below (g := gb295) (o := .cells #[.int .i64 t298, .slice Ao33 t299.length co33] 24 (0, 0)) (by (with_reducible repeat (first | refine blk_drewN ?_ _ | refine blk_drew ?_ | refine blk_alloc ?_ _)); exact BK295.out) hb); have n4_ := Aside0.mk (blk_below (g := gb296) (o := .cells #[.int .i64 t302, .slice Ao37 t303.length co37] 24 (0, 0)) (by (with_reducible repeat (first | refine blk_drewN ?_ _ | refine blk_drew ?_ | refine blk_alloc ?_ _)); exact BK296.out) hb); have n5_ := Aside0.mk (below_step (by repeat (first | (with_reducible first | exact HB.out | apply below_alloc | apply pw_below_drewN | apply below_drew1 | refine below_set ?_ GE295.out | refine below_set ?_ GE296.out) | exact HB.out)) hb); have n6_ := Aside0.mk (hbox); have n7_ := Aside0.mk ((by rw [hg]; exact (below_size (by repeat (first | (with_reducible first | exact HB.out | apply below_alloc | apply pw_below_drewN | apply below_drew1 | refine below_set ?_ GE295.out | refine below_set ?_ GE296.out) | exact HB.out))) : w.heap.size ≤ gb310)); have n8_ := Aside0.mk ((by rw [hg]; exact (below_size (by repeat (first | (with_reducible first | exact HB.out | apply below_alloc | apply pw_below_drewN | apply below_drew1 | refine below_set ?_ GE295.out | refine below_set ?_ GE296.out) | exact HB.out))) : w.heap.size ≤ gb310)); have n9_ := Aside0.mk ((by rw [hg]; exact Nat.ne_of_lt (blk_lt (g := gb295) (o := .cells #[.int .i64 t298, .slice Ao33 t299.length co33] 24 (0, 0)) (by (with_reducible repeat (first | refine blk_drewN ?_ _ | refine blk_drew ?_ | refine blk_alloc ?_ _)); exact BK295.out)) : gb295 ≠ gb310)); have n10_ := Aside0.mk ((by rw [hg]; exact Nat.ne_of_gt (blk_lt (g := gb295) (o := .cells #[.int .i64 t298, .slice Ao33 t299.length co33] 24 (0, 0)) (by (with_reducible repeat (first | refine blk_drewN ?_ _ | refine blk_drew ?_ | refine blk_alloc ?_ _)); exact BK295.out)) : gb310 ≠ gb295)); have n11_ := Aside0.mk ((by rw [hg]; exact Nat.ne_of_lt (blk_lt (g := gb296) (o := .cells #[.int .i64 t302, .slice Ao37 t303.length co37] 24 (0, 0)) (by (with_reducible repeat (first | refine blk_drewN ?_ _ | refine blk_drew ?_ | refine blk_alloc ?_ _)); exact BK296.out)) : gb296 ≠ gb310)); have n12_ := Aside0.mk ((by rw [hg]; exact Nat.ne_of_gt (blk_lt (g := gb296) (o := .cells #[.int .i64 t302, .slice Ao37 t303.length co37] 24 (0, 0)) (by (with_reducible repeat (first | refine blk_drewN ?_ _ | refine blk_drew ?_ | refine blk_alloc ?_ _)); exact BK296.out)) : gb310 ≠ gb296)); clear HO301; clear HO305; clear HO309; clear BK295; clear BK296; clear HB; have HO301 := n0_; have HO305 := n1_; have HO309 := n2_; have BK295 := n3_; have BK296 := n4_; have HB := n5_; have BK310 := n6_; have GW310 := n7_; have GE310 := n8_; have NB295_310 := n9_; have NB310_295 := n10_; have NB296_310 := n11_; have NB310_296 := n12_; clear n0_ n1_ n2_ n3_ n4_ n5_ n6_ n7_ n8_ n9_ n10_ n11_ n12_; clear hb hbox hg; have hnb42 := NB310_295.out; have hnc42 := NB295_310.out; have hnb43 := NB310_296.out; have hnc43 := NB296_310.out; have hcz44_0 : w41.cell? ⟨gb310, 0, none⟩ = some (.int .i64 0) := (blk_cell BK310.out 0).trans rfl; have hcz44_1 : w41.cell? ⟨gb310, 1, none⟩ = some (.slice none 0 0) := (blk_cell BK310.out 1).trans rfl; have hfz44_0 := blk_frozen BK310.out 0; have hfz44_1 := blk_frozen BK310.out 1; obtain ⟨Ao45, co45, eo45⟩ := Kd.V_slice HO309.out; subst eo45) | ((with_reducible refine gate_callee (f := 19) rfl ?_); refine goesL_ (some 21) rfl rfl Try.func19 (by kernel_rfl) rfl #[.int .i64 a1] rfl (by (try simp only [List.map_toArray, List.map_cons, List.map_nil]); first | done | rfl | (simp only [List.length_drop, List.length_take]; rfl)) ?_; (with_reducible refine (clavierref08_Flags.calls a1 t311 _ A8.out).mono ?_); rintro e w46 ⟨rfl, hb⟩; refine ⟨_, rfl, ?_⟩; have n0_ := Aside0.mk (Kd.R_below (by (with_reducible repeat (first | apply Kd.R_alloc | apply Kd.R_drewN | apply Kd.R_drew)); exact (Kd.R_mono (Kd.R_far (p := ⟨gb310, 1, none⟩) (Kd.R_far (p := ⟨gb310, 0, none⟩) (Kd.R_types HO301.out BK310.out (by decide)) (fun _ hk => hk.2) (.int .i64 t306)) (fun _ hk => hk.2) (.slice Ao45 t307.length co45)) (fun _ h_ => h_.1))) hb); have n1_ := Aside0.mk (Kd.R_below (by (with_reducible repeat (first | apply Kd.R_alloc | apply Kd.R_drewN | apply Kd.R_drew)); exact (Kd.R_mono (Kd.R_far (p := ⟨gb310, 1, none⟩) (Kd.R_far (p := ⟨gb310, 0, none⟩) (Kd.R_types HO305.out BK310.out (by decide)) (fun _ hk => hk.2) (.int .i64 t306)) (fun _ hk => hk.2) (.slice Ao45 t307.length co45)) (fun _ h_ => h_.1))) hb); have n2_ := Aside0.mk (Kd.V_below (by (with_reducible repeat (first | apply Kd.V_alloc | apply Kd.V_drewN | apply Kd.V_drew)); exact (Kd.V_mono (Kd.V_far (p := ⟨gb310, 1, none⟩) (Kd.V_far (p := ⟨gb310, 0, none⟩) (Kd.V_mono HO309.out (fun k_ hk => (⟨hk, hk.2⟩ : _ ∧ k_ ≠ gb310))) (fun _ hk => hk.2) (.int .i64 t306)) (fun _ hk => hk.2) (.slice Ao45 t307.length co45)) (fun _ h_ => h_.1))) hb); have n3_ := Aside0.mk (blk_below (g := gb295) (o := .cells #[.int .i64 t298, .slice Ao33 t299.length co33] 24 (0, 0)) (by (with_reducible repeat (first | refine blk_drewN ?_ _ | refine blk_drew ?_ | refine blk_alloc ?_ _)); refine blk_far ?_ NB295_310.out _; (with_reducible repeat (first | refine blk_drewN ?_ _ | refine blk_drew ?_ | refine blk_alloc ?_ _)); refine blk_far ?_ NB295_310.out _; (with_reducible repeat (first | refine blk_drewN ?_ _ | refine blk_drew ?_ | refine blk_alloc ?_ _)); exact BK295.out) hb); have n4_ := Aside0.mk (blk_below (g := gb296) (o := .cells #[.int .i64 t302, .slice Ao37 t303.length co37] 24 (0, 0)) (by (with_reducible repeat (first | refine blk_drewN ?_ _ | refine blk_drew ?_ | refine blk_alloc ?_ _)); refine blk_far ?_ NB296_310.out _; (with_reducible repeat (first | refine blk_drewN ?_ _ | refine blk_drew ?_ | refine blk_alloc ?_ _)); refine blk_far ?_ NB296_310.out _; (with_reducible repeat (first | refine blk_drewN ?_ _ | refine blk_drew ?_ | refine blk_alloc ?_ _)); exact BK296.out) hb); have n5_ := Aside0.mk (blk_below (g := gb310) (o := .cells #[.int .i64 t306, .slice Ao45 t307.length co45] 27 (0, 0)) (by (with_reducible repeat (first | refine blk_drewN ?_ _ | refine blk_drew ?_ | refine blk_alloc ?_ _)); refine blk_put (cs := #[.int .i64 t306, .slice none 0 0]) ?_ 1 _ rfl; (with_reducible repeat (first | refine blk_drewN ?_ _ | refine blk_drew ?_ | refine blk_alloc ?_ _)); refine blk_put (cs := #[.int .i64 0, .slice none 0 0]) ?_ 0 _ rfl; (with_reducible repeat (first | refine blk_drewN ?_ _ | refine blk_drew ?_ | refine blk_alloc ?_ _)); exact BK310.out) hb); have n6_ := Aside0.mk (below_step (by repeat (first | (with_reducible first | exact HB.out | apply below_alloc | apply pw_below_drewN | apply below_drew1 | refine below_set ?_ GE295.out | refine below_set ?_ GE296.out | refine below_set ?_ GE310.out) | exact HB.out)) hb); clear HO301; clear HO305; clear HO309; clear BK295; clear BK296; clear BK310; clear HB; have HO301 := n0_; have HO305 := n1_; have HO309 := n2_; have BK295 := n3_; have BK296 := n4_; have BK310 := n5_; have HB := n6_; clear n0_ n1_ n2_ n3_ n4_ n5_ n6_; (try clear hb); (try clear hb2); (try clear hk); (try clear hi); have hcz47_0 : w46.cell? ⟨gb310, 0, none⟩ = some (.int .i64 t306) := (blk_cell BK310.out 0).trans rfl; have hcz47_1 : w46.cell? ⟨gb310, 1, none⟩ = some (.slice Ao45 t307.length co45) := (blk_cell BK310.out 1).trans rfl; have hfz47_0 := blk_frozen BK310.out 0; have hfz47_1 := blk_frozen BK310.out 1) | ((with_reducible refine gate_callee (f := 17) rfl ?_); refine goesL_ (some 24) rfl rfl Try.func17 (by kernel_rfl) rfl #[.agg #[.int .i64 t306, .slice Ao45 t307.length co45], .int .i64 a1, .int .i64 2] rfl (by (try simp only [List.map_toArray, List.map_cons, List.map_nil]); first | done | rfl | (simp only [List.length_drop, List.length_take]; rfl)) ?_; (with_reducible refine (stack_Put.calls t306 _ _ t307 a1 2 t312 t313 _ ?side1 ?side2 A9.out).mono ?_); (case side1 => repeat (first | exact (Kd.V_reads' HO309.out).2.2 | (with_reducible refine Kd.C_alloc ?_ _) | (with_reducible refine Kd.C_drewN ?_ _) | (with_reducible refine Kd.C_drew ?_))); (case side2 => exact (Kd.V_reads' HO309.out).2.1); rintro e w48 ⟨v314, rfl, ho0, hb⟩; refine ⟨_, rfl, ?_⟩; have n0_ := Aside0.mk (Kd.R_elder' (by (with_reducible repeat (first | apply Kd.R_alloc | apply Kd.R_drewN | apply Kd.R_drew)); exact HO301.out) (Kd.R_base ho0) hb); have n1_ := Aside0.mk (Kd.R_elder' (by (with_reducible repeat (first | apply Kd.R_alloc | apply Kd.R_drewN | apply Kd.R_drew)); exact HO305.out) (Kd.R_base ho0) hb); have n2_ := Aside0.mk (Kd.V_elder' (by (with_reducible repeat (first | apply Kd.V_alloc | apply Kd.V_drewN | apply Kd.V_drew)); exact HO309.out) (Kd.R_base ho0) hb); have n3_ := Aside0.mk (Kd.R_lower (Kd.R_new' (Kd.R_new' ho0 (Kd.R_lt (by (with_reducible repeat (first | apply Kd.R_alloc | apply Kd.R_drewN | apply Kd.R_drew)); exact HO301.out))) (Kd.R_lt (by (with_reducible repeat (first | apply Kd.R_alloc | apply Kd.R_drewN | apply Kd.R_drew)); exact HO305.out))) (below_size (by repeat (first | (with_reducible first | exact HB.out | apply below_alloc | apply pw_below_drewN | apply below_drew1 | refine below_set ?_ GE295.out | refine below_set ?_ GE296.out | refine below_set ?_ GE310.out) | exact HB.out)))); have n4_ := Aside0.mk (blk_below (g := gb295) (o := .cells #[.int .i64 t298, .slice Ao33 t299.length co33] 24 (0, 0)) (by (with_reducible repeat (first | refine blk_drewN ?_ _ | refine blk_drew ?_ | refine blk_alloc ?_ _)); exact BK295.out) hb); have n5_ := Aside0.mk (blk_below (g := gb296) (o := .cells #[.int .i64 t302, .slice Ao37 t303.length co37] 24 (0, 0)) (by (with_reducible repeat (first | refine blk_drewN ?_ _ | refine blk_drew ?_ | refine blk_alloc ?_ _)); exact BK296.out) hb); have n6_ := Aside0.mk (blk_below (g := gb310) (o := .cells #[.int .i64 t306, .slice Ao45 t307.length co45] 27 (0, 0)) (by (with_reducible repeat (first | refine blk_drewN ?_ _ | refine blk_drew ?_ | refine blk_alloc ?_ _)); exact BK310.out) hb); have n7_ := Aside0.mk (below_step (by repeat (first | (with_reducible first | exact HB.out | apply below_alloc | apply pw_below_drewN | apply below_drew1 | refine below_set ?_ GE295.out | refine below_set ?_ GE296.out | refine below_set ?_ GE310.out) | exact HB.out)) hb); clear HO301; clear HO305; clear HO309; clear BK295; clear BK296; clear BK310; clear HB; have HO301 := n0_; have HO305 := n1_; have HO309 := n2_; have HO315 := n3_; have BK295 := n4_; have BK296 := n5_; have BK310 := n6_; have HB := n7_; clear n0_ n1_ n2_ n3_ n4_ n5_ n6_ n7_; (try clear hb); (try clear hb2); (try clear hk); (try clear hi); (try clear ho0)) | ((with_reducible refine gate_dst (N := 10) rfl ?_); refine box_event ?hg (N := 10) ?hd (cs := #[.int .i64 0, .slice none 0 0]) (t := 27) ?hr ?_; (case hd => rfl); (case hg => rfl); (case hr => first | (go_simp; done) | (go_simp; rfl)); intro gb316 hg w49 hbox hb; have n0_ := Aside0.mk (Kd.R_below (by (with_reducible repeat (first | apply Kd.R_alloc | apply Kd.R_drewN | apply Kd.R_drew)); exact HO301.out) hb); have n1_ := Aside0.mk (Kd.R_below (by (with_reducible repeat (first | apply Kd.R_alloc | apply Kd.R_drewN | apply Kd.R_drew)); exact HO305.out) hb); have n2_ := Aside0.mk (Kd.V_below (Kd.V_elderB (by (with_reducible repeat (first | apply Kd.V_alloc | apply Kd.V_drewN | apply Kd.V_drew)); exact HO309.out) gb316 (Nat.le_of_eq hg.symm)) hb); have n3_ := Aside0.mk (Kd.R_below (by (with_reducible repeat (first | apply Kd.R_alloc | apply Kd.R_drewN | apply Kd.R_drew)); exact HO315.out) hb); have n4_ := Aside0.mk (blk_below (g := gb295) (o := .cells #[.int .i64 t298, .slice Ao33 t299.length co33] 24 (0, 0)) (by (with_reducible repeat (first | refine blk_drewN ?_ _ | refine blk_drew ?_ | refine blk_alloc ?_ _)); exact BK295.out) hb); have n5_ := Aside0.mk (blk_below (g := gb296) (o := .cells #[.int .i64 t302, .slice Ao37 t303.length co37] 24 (0, 0)) (by (with_reducible repeat (first | refine blk_drewN ?_ _ | refine blk_drew ?_ | refine blk_alloc ?_ _)); exact BK296.out) hb); have n6_ := Aside0.mk (blk_below (g := gb310) (o := .cells #[.int .i64 t306, .slice Ao45 t307.length co45] 27 (0, 0)) (by (with_reducible repeat (first | refine blk_drewN ?_ _ | refine blk_drew ?_ | refine blk_alloc ?_ _)); exact BK310.out) hb); have n7_ := Aside0.mk (below_step (by repeat (first | (with_reducible first | exact HB.out | apply below_alloc | apply pw_below_drewN | apply below_drew1 | refine below_set ?_ GE295.out | refine below_set ?_ GE296.out | refine below_set ?_ GE310.out) | exact HB.out)) hb); have n8_ := Aside0.mk (hbox); have n9_ := Aside0.mk ((by rw [hg]; exact (below_size (by repeat (first | (with_reducible first | exact HB.out | apply below_alloc | apply pw_below_drewN | apply below_drew1 | refine below_set ?_ GE295.out | refine below_set ?_ GE296.out | refine below_set ?_ GE310.out) | exact HB.out))) : w.heap.size ≤ gb316)); have n10_ := Aside0.mk ((by rw [hg]; exact (below_size (by repeat (first | (with_reducible first | exact HB.out | apply below_alloc | apply pw_below_drewN | apply below_drew1 | refine below_set ?_ GE295.out | refine below_set ?_ GE296.out | refine below_set ?_ GE310.out) | exact HB.out))) : w.heap.size ≤ gb316)); have n11_ := Aside0.mk ((by rw [hg]; exact Nat.ne_of_lt (blk_lt (g := gb295) (o := .cells #[.int .i64 t298, .slice Ao33 t299.length co33] 24 (0, 0)) (by (with_reducible repeat (first | refine blk_drewN ?_ _ | refine blk_drew ?_ | refine blk_alloc ?_ _)); exact BK295.out)) : gb295 ≠ gb316)); have n12_ := Aside0.mk ((by rw [hg]; exact Nat.ne_of_gt (blk_lt (g := gb295) (o := .cells #[.int .i64 t298, .slice Ao33 t299.length co33] 24 (0, 0)) (by (with_reducible repeat (first | refine blk_drewN ?_ _ | refine blk_drew ?_ | refine blk_alloc ?_ _)); exact BK295.out)) : gb316 ≠ gb295)); have n13_ := Aside0.mk ((by rw [hg]; exact Nat.ne_of_lt (blk_lt (g := gb296) (o := .cells #[.int .i64 t302, .slice Ao37 t303.length co37] 24 (0, 0)) (by (with_reducible repeat (first | refine blk_drewN ?_ _ | refine blk_drew ?_ | refine blk_alloc ?_ _)); exact BK296.out)) : gb296 ≠ gb316)); have n14_ := Aside0.mk ((by rw [hg]; exact Nat.ne_of_gt (blk_lt (g := gb296) (o := .cells #[.int .i64 t302, .slice Ao37 t303.length co37] 24 (0, 0)) (by (with_reducible repeat (first | refine blk_drewN ?_ _ | refine blk_drew ?_ | refine blk_alloc ?_ _)); exact BK296.out)) : gb316 ≠ gb296)); have n15_ := Aside0.mk ((by rw [hg]; exact Nat.ne_of_lt (blk_lt (g := gb310) (o := .cells #[.int .i64 t306, .slice Ao45 t307.length co45] 27 (0, 0)) (by (with_reducible repeat (first | refine blk_drewN ?_ _ | refine blk_drew ?_ | refine blk_alloc ?_ _)); exact BK310.out)) : gb310 ≠ gb316)); have n16_ := Aside0.mk ((by rw [hg]; exact Nat.ne_of_gt (blk_lt (g := gb310) (o := .cells #[.int .i64 t306, .slice Ao45 t307.length co45] 27 (0, 0)) (by (with_reducible repeat (first | refine blk_drewN ?_ _ | refine blk_drew ?_ | refine blk_alloc ?_ _)); exact BK310.out)) : gb316 ≠ gb310)); clear HO301; clear HO305; clear HO309; clear HO315; clear BK295; clear BK296; clear BK310; clear HB; have HO301 := n0_; have HO305 := n1_; have HO309 := n2_; have HO315 := n3_; have BK295 := n4_; have BK296 := n5_; have BK310 := n6_; have HB := n7_; have BK316 := n8_; have GW316 := n9_; have GE316 := n10_; have NB295_316 := n11_; have NB316_295 := n12_; have NB296_316 := n13_; have NB316_296 := n14_; have NB310_316 := n15_; have NB316_310 := n16_; clear n0_ n1_ n2_ n3_ n4_ n5_ n6_ n7_ n8_ n9_ n10_ n11_ n12_ n13_ n14_ n15_ n16_; clear hb hbox hg; have hnb50 := NB316_295.out; have hnc50 := NB295_316.out; have hnb51 := NB316_296.out; have hnc51 := NB296_316.out; have hnb52 := NB316_310.out; have hnc52 := NB310_316.out; have hcz53_0 : w49.cell? ⟨gb316, 0, none⟩ = some (.int .i64 0) := (blk_cell BK316.out 0).trans rfl; have hcz53_1 : w49.cell? ⟨gb316, 1, none⟩ = some (.slice none 0 0) := (blk_cell BK316.out 1).trans rfl; have hfz53_0 := blk_frozen BK316.out 0; have hfz53_1 := blk_frozen BK316.out 1; obtain ⟨Ao54, co54, eo54⟩ := Kd.R_slice HO315.out; subst eo54) | ((with_reducible refine gate_callee (f := 17) rfl ?_); refine goesL_ (some 27) rfl rfl Try.func17 (by kernel_rfl) rfl #[.agg #[.int .i64 t312, .slice Ao54 t313.length co54], .int .i64 a1, .int .i64 3] rfl (by (try simp only [List.map_toArray, List.map_cons, List.map_nil]); first | done | rfl | (simp only [List.length_drop, List.length_take]; rfl)) ?_; (with_reducible refine (stack_Put.calls t312 _ _ t313 a1 3 t317 t318 _ ?side1 ?side2 A10.out).mono ?_); (case side1 => refine (Kd.R_reads' (e := 3) (base := w.heap.size) (ok := fun k_ => ((True ∧ some k_ ≠ (.slice Ao33 t299.length co33 : Value).ownBlock) ∧ some k_ ≠ (.slice Ao37 t303.length co37 : Value).ownBlock)) (n := t313.length) (c := co54) ?_).2.2; exact (by (with_reducible repeat (first | apply Kd.R_alloc | apply Kd.R_drewN | apply Kd.R_drew)); exact (Kd.R_mono (Kd.R_far (p := ⟨gb316, 1, none⟩) (Kd.R_far (p := ⟨gb316, 0, none⟩) (Kd.R_types HO315.out BK316.out (by decide)) (fun _ hk => hk.2) (.int .i64 t312)) (fun _ hk => hk.2) (.slice Ao54 t313.length co54)) (fun _ h_ => h_.1)))); (case side2 => exact (Kd.R_reads' HO315.out).2.1); rintro e w55 ⟨v319, rfl, ho0, hb⟩; refine ⟨_, rfl, ?_⟩; have n0_ := Aside0.mk (Kd.R_elder' (by (with_reducible repeat (first | apply Kd.R_alloc | apply Kd.R_drewN | apply Kd.R_drew)); exact (Kd.R_mono (Kd.R_far (p := ⟨gb316, 1, none⟩) (Kd.R_far (p := ⟨gb316, 0, none⟩) (Kd.R_types HO301.out BK316.out (by decide)) (fun _ hk => hk.2) (.int .i64 t312)) (fun _ hk => hk.2) (.slice Ao54 t313.length co54)) (fun _ h_ => h_.1))) (Kd.R_base ho0) hb); have n1_ := Aside0.mk (Kd.R_elder' (by (with_reducible repeat (first | apply Kd.R_alloc | apply Kd.R_drewN | apply Kd.R_drew)); exact (Kd.R_mono (Kd.R_far (p := ⟨gb316, 1, none⟩) (Kd.R_far (p := ⟨gb316, 0, none⟩) (Kd.R_types HO305.out BK316.out (by decide)) (fun _ hk => hk.2) (.int .i64 t312)) (fun _ hk => hk.2) (.slice Ao54 t313.length co54)) (fun _ h_ => h_.1))) (Kd.R_base ho0) hb); have n2_ := Aside0.mk (Kd.V_elder' (by (with_reducible repeat (first | apply Kd.V_alloc | apply Kd.V_drewN | apply Kd.V_drew)); exact (Kd.V_mono (Kd.V_far (p := ⟨gb316, 1, none⟩) (Kd.V_far (p := ⟨gb316, 0, none⟩) (Kd.V_mono HO309.out (fun k_ hk => (⟨hk, hk.2⟩ : _ ∧ k_ ≠ gb316))) (fun _ hk => hk.2) (.int .i64 t312)) (fun _ hk => hk.2) (.slice Ao54 t313.length co54)) (fun _ h_ => h_.1))) (Kd.R_base ho0) hb); have n3_ := Aside0.mk (Kd.R_elder' (by (with_reducible repeat (first | apply Kd.R_alloc | apply Kd.R_drewN | apply Kd.R_drew)); exact (Kd.R_mono (Kd.R_far (p := ⟨gb316, 1, none⟩) (Kd.R_far (p := ⟨gb316, 0, none⟩) (Kd.R_types HO315.out BK316.out (by decide)) (fun _ hk => hk.2) (.int .i64 t312)) (fun _ hk => hk.2) (.slice Ao54 t313.length co54)) (fun _ h_ => h_.1))) (Kd.R_base ho0) hb); have n4_ := Aside0.mk (Kd.R_lower (Kd.R_new' (Kd.R_new' (Kd.R_new' ho0 (Kd.R_lt (by (with_reducible repeat (first | apply Kd.R_alloc | apply Kd.R_drewN | apply Kd.R_drew)); exact (Kd.R_mono (Kd.R_far (p := ⟨gb316, 1, none⟩) (Kd.R_far (p := ⟨gb316, 0, none⟩) (Kd.R_types HO301.out BK316.out (by decide)) (fun _ hk => hk.2) (.int .i64 t312)) (fun _ hk => hk.2) (.slice Ao54 t313.length co54)) (fun _ h_ => h_.1))))) (Kd.R_lt (by (with_reducible repeat (first | apply Kd.R_alloc | apply Kd.R_drewN | apply Kd.R_drew)); exact (Kd.R_mono (Kd.R_far (p := ⟨gb316, 1, none⟩) (Kd.R_far (p := ⟨gb316, 0, none⟩) (Kd.R_types HO305.out BK316.out (by decide)) (fun _ hk => hk.2) (.int .i64 t312)) (fun _ hk => hk.2) (.slice Ao54 t313.length co54)) (fun _ h_ => h_.1))))) (Kd.R_lt (by (with_reducible repeat (first | apply Kd.R_alloc | apply Kd.R_drewN | apply Kd.R_drew)); exact (Kd.R_mono (Kd.R_far (p := ⟨gb316, 1, none⟩) (Kd.R_far (p := ⟨gb316, 0, none⟩) (Kd.R_types HO315.out BK316.out (by decide)) (fun _ hk => hk.2) (.int .i64 t312)) (fun _ hk => hk.2) (.slice Ao54 t313.length co54)) (fun _ h_ => h_.1))))) (below_size (by repeat (first | (with_reducible first | exact HB.out | apply below_alloc | apply pw_below_drewN | apply below_drew1 | refine below_set ?_ GE295.out | refine below_set ?_ GE296.out | refine below_set ?_ GE310.out | refine below_set ?_ GE316.out) | exact HB.out)))); have n5_ := Aside0.mk (blk_below (g := gb295) (o := .cells #[.int .i64 t298, .slice Ao33 t299.length co33] 24 (0, 0)) (by (with_reducible repeat (first | refine blk_drewN ?_ _ | refine blk_drew ?_ | refine blk_alloc ?_ _)); refine blk_far ?_ NB295_316.out _; (with_reducible repeat (first | refine blk_drewN ?_ _ | refine blk_drew ?_ | refine blk_alloc ?_ _)); refine blk_far ?_ NB295_316.out _; (with_reducible repeat (first | refine blk_drewN ?_ _ | refine blk_drew ?_ | refine blk_alloc ?_ _)); exact BK295.out) hb); have n6_ := Aside0.mk (blk_below (g := gb296) (o := .cells #[.int .i64 t302, .slice Ao37 t303.length co37] 24 (0, 0)) (by (with_reducible repeat (first | refine blk_drewN ?_ _ | refine blk_drew ?_ | refine blk_alloc ?_ _)); refine blk_far ?_ NB296_316.out _; (with_reducible repeat (first | refine blk_drewN ?_ _ | refine blk_drew ?_ | refine blk_alloc ?_ _)); refine blk_far ?_ NB296_316.out _; (with_reducible repeat (first | refine blk_drewN ?_ _ | refine blk_drew ?_ | refine blk_alloc ?_ _)); exact BK296.out) hb); have n7_ := Aside0.mk (blk_below (g := gb310) (o := .cells #[.int .i64 t306, .slice Ao45 t307.length co45] 27 (0, 0)) (by (with_reducible repeat (first | refine blk_drewN ?_ _ | refine blk_drew ?_ | refine blk_alloc ?_ _)); refine blk_far ?_ NB310_316.out _; (with_reducible repeat (first | refine blk_drewN ?_ _ | refine blk_drew ?_ | refine blk_alloc ?_ _)); refine blk_far ?_ NB310_316.out _; (with_reducible repeat (first | refine blk_drewN ?_ _ | refine blk_drew ?_ | refine blk_alloc ?_ _)); exact BK310.out) hb); have n8_ := Aside0.mk (blk_below (g := gb316) (o := .cells #[.int .i64 t312, .slice Ao54 t313.length co54] 27 (0, 0)) (by (with_reducible repeat (first | refine blk_drewN ?_ _ | refine blk_drew ?_ | refine blk_alloc ?_ _)); refine blk_put (cs := #[.int .i64 t312, .slice none 0 0]) ?_ 1 _ rfl; (with_reducible repeat (first | refine blk_drewN ?_ _ | refine blk_drew ?_ | refine blk_alloc ?_ _)); refine blk_put (cs := #[.int .i64 0, .slice none 0 0]) ?_ 0 _ rfl; (with_reducible repeat (first | refine blk_drewN ?_ _ | refine blk_drew ?_ | refine blk_alloc ?_ _)); exact BK316.out) hb); have n9_ := Aside0.mk (below_step (by repeat (first | (with_reducible first | exact HB.out | apply below_alloc | apply pw_below_drewN | apply below_drew1 | refine below_set ?_ GE295.out | refine below_set ?_ GE296.out | refine below_set ?_ GE310.out | refine below_set ?_ GE316.out) | exact HB.out)) hb); clear HO301; clear HO305; clear HO309; clear HO315; clear BK295; clear BK296; clear BK310; clear BK316; clear HB; have HO301 := n0_; have HO305 := n1_; have HO309 := n2_; have HO315 := n3_; have HO320 := n4_; have BK295 := n5_; have BK296 := n6_; have BK310 := n7_; have BK316 := n8_; have HB := n9_; clear n0_ n1_ n2_ n3_ n4_ n5_ n6_ n7_ n8_ n9_; (try clear hb); (try clear hb2); (try clear hk); (try clear hi); (try clear ho0)) | ((with_reducible refine gate_dst (N := 11) rfl ?_); refine box_event ?hg (N := 11) ?hd (cs := #[.int .i64 0, .slice none 0 0]) (t := 27) ?hr ?_; (case hd => rfl); (case hg => rfl); (case hr => first | (go_simp; done) | (go_simp; rfl)); intro gb321 hg w56 hbox hb; have n0_ := Aside0.mk (Kd.R_below (by (with_reducible repeat (first | apply Kd.R_alloc | apply Kd.R_drewN | apply Kd.R_drew)); exact HO301.out) hb); have n1_ := Aside0.mk (Kd.R_below (by (with_reducible repeat (first | apply Kd.R_alloc | apply Kd.R_drewN | apply Kd.R_drew)); exact HO305.out) hb); have n2_ := Aside0.mk (Kd.V_below (Kd.V_elderB (by (with_reducible repeat (first | apply Kd.V_alloc | apply Kd.V_drewN | apply Kd.V_drew)); exact HO309.out) gb321 (Nat.le_of_eq hg.symm)) hb); have n3_ := Aside0.mk (Kd.R_below (by (with_reducible repeat (first | apply Kd.R_alloc | apply Kd.R_drewN | apply Kd.R_drew)); exact HO315.out) hb); have n4_ := Aside0.mk (Kd.R_below (by (with_reducible repeat (first | apply Kd.R_alloc | apply Kd.R_drewN | apply Kd.R_drew)); exact HO320.out) hb); have n5_ := Aside0.mk (blk_below (g := gb295) (o := .cells #[.int .i64 t298, .slice Ao33 t299.length co33] 24 (0, 0)) (by (with_reducible repeat (first | refine blk_drewN ?_ _ | refine blk_drew ?_ | refine blk_alloc ?_ _)); exact BK295.out) hb); have n6_ := Aside0.mk (blk_below (g := gb296) (o := .cells #[.int .i64 t302, .slice Ao37 t303.length co37] 24 (0, 0)) (by (with_reducible repeat (first | refine blk_drewN ?_ _ | refine blk_drew ?_ | refine blk_alloc ?_ _)); exact BK296.out) hb); have n7_ := Aside0.mk (blk_below (g := gb310) (o := .cells #[.int .i64 t306, .slice Ao45 t307.length co45] 27 (0, 0)) (by (with_reducible repeat (first | refine blk_drewN ?_ _ | refine blk_drew ?_ | refine blk_alloc ?_ _)); exact BK310.out) hb); have n8_ := Aside0.mk (blk_below (g := gb316) (o := .cells #[.int .i64 t312, .slice Ao54 t313.length co54] 27 (0, 0)) (by (with_reducible repeat (first | refine blk_drewN ?_ _ | refine blk_drew ?_ | refine blk_alloc ?_ _)); exact BK316.out) hb); have n9_ := Aside0.mk (below_step (by repeat (first | (with_reducible first | exact HB.out | apply below_alloc | apply pw_below_drewN | apply below_drew1 | refine below_set ?_ GE295.out | refine below_set ?_ GE296.out | refine below_set ?_ GE310.out | refine below_set ?_ GE316.out) | exact HB.out)) hb); have n10_ := Aside0.mk (hbox); have n11_ := Aside0.mk ((by rw [hg]; exact (below_size (by repeat (first | (with_reducible first | exact HB.out | apply below_alloc | apply pw_below_drewN | apply below_drew1 | refine below_set ?_ GE295.out | refine below_set ?_ GE296.out | refine below_set ?_ GE310.out | refine below_set ?_ GE316.out) | exact HB.out))) : w.heap.size ≤ gb321)); have n12_ := Aside0.mk ((by rw [hg]; exact (below_size (by repeat (first | (with_reducible first | exact HB.out | apply below_alloc | apply pw_below_drewN | apply below_drew1 | refine below_set ?_ GE295.out | refine below_set ?_ GE296.out | refine below_set ?_ GE310.out | refine below_set ?_ GE316.out) | exact HB.out))) : w.heap.size ≤ gb321)); have n13_ := Aside0.mk ((by rw [hg]; exact Nat.ne_of_lt (blk_lt (g := gb295) (o := .cells #[.int .i64 t298, .slice Ao33 t299.length co33] 24 (0, 0)) (by (with_reducible repeat (first | refine blk_drewN ?_ _ | refine blk_drew ?_ | refine blk_alloc ?_ _)); exact BK295.out)) : gb295 ≠ gb321)); have n14_ := Aside0.mk ((by rw [hg]; exact Nat.ne_of_gt (blk_lt (g := gb295) (o := .cells #[.int .i64 t298, .slice Ao33 t299.length co33] 24 (0, 0)) (by (with_reducible repeat (first | refine blk_drewN ?_ _ | refine blk_drew ?_ | refine blk_alloc ?_ _)); exact BK295.out)) : gb321 ≠ gb295)); have n15_ := Aside0.mk ((by rw [hg]; exact Nat.ne_of_lt (blk_lt (g := gb296) (o := .cells #[.int .i64 t302, .slice Ao37 t303.length co37] 24 (0, 0)) (by (with_reducible repeat (first | refine blk_drewN ?_ _ | refine blk_drew ?_ | refine blk_alloc ?_ _)); exact BK296.out)) : gb296 ≠ gb321)); have n16_ := Aside0.mk ((by rw [hg]; exact Nat.ne_of_gt (blk_lt (g := gb296) (o := .cells #[.int .i64 t302, .slice Ao37 t303.length co37] 24 (0, 0)) (by (with_reducible repeat (first | refine blk_drewN ?_ _ | refine blk_drew ?_ | refine blk_alloc ?_ _)); exact BK296.out)) : gb321 ≠ gb296)); have n17_ := Aside0.mk ((by rw [hg]; exact Nat.ne_of_lt (blk_lt (g := gb310) (o := .cells #[.int .i64 t306, .slice Ao45 t307.length co45] 27 (0, 0)) (by (with_reducible repeat (first | refine blk_drewN ?_ _ | refine blk_drew ?_ | refine blk_alloc ?_ _)); exact BK310.out)) : gb310 ≠ gb321)); have n18_ := Aside0.mk ((by rw [hg]; exact Nat.ne_of_gt (blk_lt (g := gb310) (o := .cells #[.int .i64 t306, .slice Ao45 t307.length co45] 27 (0, 0)) (by (with_reducible repeat (first | refine blk_drewN ?_ _ | refine blk_drew ?_ | refine blk_alloc ?_ _)); exact BK310.out)) : gb321 ≠ gb310)); have n19_ := Aside0.mk ((by rw [hg]; exact Nat.ne_of_lt (blk_lt (g := gb316) (o := .cells #[.int .i64 t312, .slice Ao54 t313.length co54] 27 (0, 0)) (by (with_reducible repeat (first | refine blk_drewN ?_ _ | refine blk_drew ?_ | refine blk_alloc ?_ _)); exact BK316.out)) : gb316 ≠ gb321)); have n20_ := Aside0.mk ((by rw [hg]; exact Nat.ne_of_gt (blk_lt (g := gb316) (o := .cells #[.int .i64 t312, .slice Ao54 t313.length co54] 27 (0, 0)) (by (with_reducible repeat (first | refine blk_drewN ?_ _ | refine blk_drew ?_ | refine blk_alloc ?_ _)); exact BK316.out)) : gb321 ≠ gb316)); clear HO301; clear HO305; clear HO309; clear HO315; clear HO320; clear BK295; clear BK296; clear BK310; clear BK316; clear HB; have HO301 := n0_; have HO305 := n1_; have HO309 := n2_; have HO315 := n3_; have HO320 := n4_; have BK295 := n5_; have BK296 := n6_; have BK310 := n7_; have BK316 := n8_; have HB := n9_; have BK321 := n10_; have GW321 := n11_; have GE321 := n12_; have NB295_321 := n13_; have NB321_295 := n14_; have NB296_321 := n15_; have NB321_296 := n16_; have NB310_321 := n17_; have NB321_310 := n18_; have NB316_321 := n19_; have NB321_316 := n20_; clear n0_ n1_ n2_ n3_ n4_ n5_ n6_ n7_ n8_ n9_ n10_ n11_ n12_ n13_ n14_ n15_ n16_ n17_ n18_ n19_ n20_; clear hb hbox hg; have hnb57 := NB321_295.out; have hnc57 := NB295_321.out; have hnb58 := NB321_296.out; have hnc58 := NB296_321.out; have hnb59 := NB321_310.out; have hnc59 := NB310_321.out; have hnb60 := NB321_316.out; have hnc60 := NB316_321.out; have hcz61_0 : w56.cell? ⟨gb321, 0, none⟩ = some (.int .i64 0) := (blk_cell BK321.out 0).trans rfl; have hcz61_1 : w56.cell? ⟨gb321, 1, none⟩ = some (.slice none 0 0) := (blk_cell BK321.out 1).trans rfl; have hfz61_0 := blk_frozen BK321.out 0; have hfz61_1 := blk_frozen BK321.out 1; obtain ⟨Ao62, co62, eo62⟩ := Kd.R_slice HO320.out; subst eo62; have hcz63_0 : w56.cell? ⟨gb310, 0, none⟩ = some (.int .i64 t306) := (blk_cell BK310.out 0).trans rfl; have hcz63_1 : w56.cell? ⟨gb310, 1, none⟩ = some (.slice Ao45 t307.length co45) := (blk_cell BK310.out 1).trans rfl; have hfz63_0 := blk_frozen BK310.out 0; have hfz63_1 := blk_frozen BK310.out 1) | ((with_reducible refine gate_callee (f := 17) rfl ?_); refine goesL_ (some 30) rfl rfl Try.func17 (by kernel_rfl) rfl #[.agg #[.int .i64 t306, .slice Ao45 t307.length co45], .int .i64 a1, .int .i64 4] rfl (by (try simp only [List.map_toArray, List.map_cons, List.map_nil]); first | done | rfl | (simp only [List.length_drop, List.length_take]; rfl)) ?_; (with_reducible refine (stack_Put.calls t306 _ _ t307 a1 4 t322 t323 _ ?side1 ?side2 A11.out).mono ?_); (case side1 => refine (Kd.V_reads' (e := 3) (base := w.heap.size) (ok := fun k_ => ((((((some k_ ≠ (.slice Ao37 t303.length co37 : Value).ownBlock ∧ (k_ ≠ gb295 ∧ k_ ≠ gb296)) ∧ k_ ≠ gb310) ∧ some k_ ≠ (.slice Ao54 t313.length co54 : Value).ownBlock) ∧ k_ ≠ gb316) ∧ some k_ ≠ (.slice Ao62 t318.length co62 : Value).ownBlock) ∧ k_ ≠ gb321)) (n := t307.length) (c := co45) ?_).2.2; exact (by (with_reducible repeat (first | apply Kd.V_alloc | apply Kd.V_drewN | apply Kd.V_drew)); exact (Kd.V_mono (Kd.V_far (p := ⟨gb321, 1, none⟩) (Kd.V_far (p := ⟨gb321, 0, none⟩) (Kd.V_mono HO309.out (fun k_ hk => (⟨hk, hk.2⟩ : _ ∧ k_ ≠ gb321))) (fun _ hk => hk.2) (.int .i64 t317)) (fun _ hk => hk.2) (.slice Ao62 t318.length co62)) (fun _ h_ => h_.1)))); (case side2 => exact (Kd.V_reads' HO309.out).2.1); rintro e w64 ⟨v324, rfl, ho0, hb⟩; refine ⟨_, rfl, ?_⟩; have n0_ := Aside0.mk (Kd.R_elder' (by (with_reducible repeat (first | apply Kd.R_alloc | apply Kd.R_drewN | apply Kd.R_drew)); exact (Kd.R_mono (Kd.R_far (p := ⟨gb321, 1, none⟩) (Kd.R_far (p := ⟨gb321, 0, none⟩) (Kd.R_types HO301.out BK321.out (by decide)) (fun _ hk => hk.2) (.int .i64 t317)) (fun _ hk => hk.2) (.slice Ao62 t318.length co62)) (fun _ h_ => h_.1))) (Kd.R_base ho0) hb); have n1_ := Aside0.mk (Kd.R_elder' (by (with_reducible repeat (first | apply Kd.R_alloc | apply Kd.R_drewN | apply Kd.R_drew)); exact (Kd.R_mono (Kd.R_far (p := ⟨gb321, 1, none⟩) (Kd.R_far (p := ⟨gb321, 0, none⟩) (Kd.R_types HO305.out BK321.out (by decide)) (fun _ hk => hk.2) (.int .i64 t317)) (fun _ hk => hk.2) (.slice Ao62 t318.length co62)) (fun _ h_ => h_.1))) (Kd.R_base ho0) hb); have n2_ := Aside0.mk (Kd.V_elder' (by (with_reducible repeat (first | apply Kd.V_alloc | apply Kd.V_drewN | apply Kd.V_drew)); exact (Kd.V_mono (Kd.V_far (p := ⟨gb321, 1, none⟩) (Kd.V_far (p := ⟨gb321, 0, none⟩) (Kd.V_mono HO309.out (fun k_ hk => (⟨hk, hk.2⟩ : _ ∧ k_ ≠ gb321))) (fun _ hk => hk.2) (.int .i64 t317)) (fun _ hk => hk.2) (.slice Ao62 t318.length co62)) (fun _ h_ => h_.1))) (Kd.R_base ho0) hb); have n3_ := Aside0.mk (Kd.R_elder' (by (with_reducible repeat (first | apply Kd.R_alloc | apply Kd.R_drewN | apply Kd.R_drew)); exact (Kd.R_mono (Kd.R_far (p := ⟨gb321, 1, none⟩) (Kd.R_far (p := ⟨gb321, 0, none⟩) (Kd.R_types HO315.out BK321.out (by decide)) (fun _ hk => hk.2) (.int .i64 t317)) (fun _ hk => hk.2) (.slice Ao62 t318.length co62)) (fun _ h_ => h_.1))) (Kd.R_base ho0) hb); have n4_ := Aside0.mk (Kd.R_elder' (by (with_reducible repeat (first | apply Kd.R_alloc | apply Kd.R_drewN | apply Kd.R_drew)); exact (Kd.R_mono (Kd.R_far (p := ⟨gb321, 1, none⟩) (Kd.R_far (p := ⟨gb321, 0, none⟩) (Kd.R_types HO320.out BK321.out (by decide)) (fun _ hk => hk.2) (.int .i64 t317)) (fun _ hk => hk.2) (.slice Ao62 t318.length co62)) (fun _ h_ => h_.1))) (Kd.R_base ho0) hb); have n5_ := Aside0.mk (Kd.R_lower (Kd.R_new' (Kd.R_new' (Kd.R_new' (Kd.R_new' ho0 (Kd.R_lt (by (with_reducible repeat (first | apply Kd.R_alloc | apply Kd.R_drewN | apply Kd.R_drew)); exact (Kd.R_mono (Kd.R_far (p := ⟨gb321, 1, none⟩) (Kd.R_far (p := ⟨gb321, 0, none⟩) (Kd.R_types HO301.out BK321.out (by decide)) (fun _ hk => hk.2) (.int .i64 t317)) (fun _ hk => hk.2) (.slice Ao62 t318.length co62)) (fun _ h_ => h_.1))))) (Kd.R_lt (by (with_reducible repeat (first | apply Kd.R_alloc | apply Kd.R_drewN | apply Kd.R_drew)); exact (Kd.R_mono (Kd.R_far (p := ⟨gb321, 1, none⟩) (Kd.R_far (p := ⟨gb321, 0, none⟩) (Kd.R_types HO305.out BK321.out (by decide)) (fun _ hk => hk.2) (.int .i64 t317)) (fun _ hk => hk.2) (.slice Ao62 t318.length co62)) (fun _ h_ => h_.1))))) (Kd.R_lt (by (with_reducible repeat (first | apply Kd.R_alloc | apply Kd.R_drewN | apply Kd.R_drew)); exact (Kd.R_mono (Kd.R_far (p := ⟨gb321, 1, none⟩) (Kd.R_far (p := ⟨gb321, 0, none⟩) (Kd.R_types HO315.out BK321.out (by decide)) (fun _ hk => hk.2) (.int .i64 t317)) (fun _ hk => hk.2) (.slice Ao62 t318.length co62)) (fun _ h_ => h_.1))))) (Kd.R_lt (by (with_reducible repeat (first | apply Kd.R_alloc | apply Kd.R_drewN | apply Kd.R_drew)); exact (Kd.R_mono (Kd.R_far (p := ⟨gb321, 1, none⟩) (Kd.R_far (p := ⟨gb321, 0, none⟩) (Kd.R_types HO320.out BK321.out (by decide)) (fun _ hk => hk.2) (.int .i64 t317)) (fun _ hk => hk.2) (.slice Ao62 t318.length co62)) (fun _ h_ => h_.1))))) (below_size (by repeat (first | (with_reducible first | exact HB.out | apply below_alloc | apply pw_below_drewN | apply below_drew1 | refine below_set ?_ GE295.out | refine below_set ?_ GE296.out | refine below_set ?_ GE310.out | refine below_set ?_ GE316.out | refine below_set ?_ GE321.out) | exact HB.out)))); have n6_ := Aside0.mk (blk_below (g := gb295) (o := .cells #[.int .i64 t298, .slice Ao33 t299.length co33] 24 (0, 0)) (by (with_reducible repeat (first | refine blk_drewN ?_ _ | refine blk_drew ?_ | refine blk_alloc ?_ _)); refine blk_far ?_ NB295_321.out _; (with_reducible repeat (first | refine blk_drewN ?_ _ | refine blk_drew ?_ | refine blk_alloc ?_ _)); refine blk_far ?_ NB295_321.out _; (with_reducible repeat (first | refine blk_drewN ?_ _ | refine blk_drew ?_ | refine blk_alloc ?_ _)); exact BK295.out) hb); have n7_ := Aside0.mk (blk_below (g := gb296) (o := .cells #[.int .i64 t302, .slice Ao37 t303.length co37] 24 (0, 0)) (by (with_reducible repeat (first | refine blk_drewN ?_ _ | refine blk_drew ?_ | refine blk_alloc ?_ _)); refine blk_far ?_ NB296_321.out _; (with_reducible repeat (first | refine blk_drewN ?_ _ | refine blk_drew ?_ | refine blk_alloc ?_ _)); refine blk_far ?_ NB296_321.out _; (with_reducible repeat (first | refine blk_drewN ?_ _ | refine blk_drew ?_ | refine blk_alloc ?_ _)); exact BK296.out) hb); have n8_ := Aside0.mk (blk_below (g := gb310) (o := .cells #[.int .i64 t306, .slice Ao45 t307.length co45] 27 (0, 0)) (by (with_reducible repeat (first | refine blk_drewN ?_ _ | refine blk_drew ?_ | refine blk_alloc ?_ _)); refine blk_far ?_ NB310_321.out _; (with_reducible repeat (first | refine blk_drewN ?_ _ | refine blk_drew ?_ | refine blk_alloc ?_ _)); refine blk_far ?_ NB310_321.out _; (with_reducible repeat (first | refine blk_drewN ?_ _ | refine blk_drew ?_ | refine blk_alloc ?_ _)); exact BK310.out) hb); have n9_ := Aside0.mk (blk_below (g := gb316) (o := .cells #[.int .i64 t312, .slice Ao54 t313.length co54] 27 (0, 0)) (by (with_reducible repeat (first | refine blk_drewN ?_ _ | refine blk_drew ?_ | refine blk_alloc ?_ _)); refine blk_far ?_ NB316_321.out _; (with_reducible repeat (first | refine blk_drewN ?_ _ | refine blk_drew ?_ | refine blk_alloc ?_ _)); refine blk_far ?_ NB316_321.out _; (with_reducible repeat (first | refine blk_drewN ?_ _ | refine blk_drew ?_ | refine blk_alloc ?_ _)); exact BK316.out) hb); have n10_ := Aside0.mk (blk_below (g := gb321) (o := .cells #[.int .i64 t317, .slice Ao62 t318.length co62] 27 (0, 0)) (by (with_reducible repeat (first | refine blk_drewN ?_ _ | refine blk_drew ?_ | refine blk_alloc ?_ _)); refine blk_put (cs := #[.int .i64 t317, .slice none 0 0]) ?_ 1 _ rfl; (with_reducible repeat (first | refine blk_drewN ?_ _ | refine blk_drew ?_ | refine blk_alloc ?_ _)); refine blk_put (cs := #[.int .i64 0, .slice none 0 0]) ?_ 0 _ rfl; (with_reducible repeat (first | refine blk_drewN ?_ _ | refine blk_drew ?_ | refine blk_alloc ?_ _)); exact BK321.out) hb); have n11_ := Aside0.mk (below_step (by repeat (first | (with_reducible first | exact HB.out | apply below_alloc | apply pw_below_drewN | apply below_drew1 | refine below_set ?_ GE295.out | refine below_set ?_ GE296.out | refine below_set ?_ GE310.out | refine below_set ?_ GE316.out | refine below_set ?_ GE321.out) | exact HB.out)) hb); clear HO301; clear HO305; clear HO309; clear HO315; clear HO320; clear BK295; clear BK296; clear BK310; clear BK316; clear BK321; clear HB; have HO301 := n0_; have HO305 := n1_; have HO309 := n2_; have HO315 := n3_; have HO320 := n4_; have HO325 := n5_; have BK295 := n6_; have BK296 := n7_; have BK310 := n8_; have BK316 := n9_; have BK321 := n10_; have HB := n11_; clear n0_ n1_ n2_ n3_ n4_ n5_ n6_ n7_ n8_ n9_ n10_ n11_; (try clear hb); (try clear hb2); (try clear hk); (try clear hi); (try clear ho0)) | ((with_reducible refine gate_dst (N := 12) rfl ?_); refine box_event ?hg (N := 12) ?hd (cs := #[.int .i64 0, .slice none 0 0]) (t := 27) ?hr ?_; (case hd => rfl); (case hg => rfl); (case hr => first | (go_simp; done) | (go_simp; rfl)); intro gb326 hg w65 hbox hb; have n0_ := Aside0.mk (Kd.R_below (by (with_reducible repeat (first | apply Kd.R_alloc | apply Kd.R_drewN | apply Kd.R_drew)); exact HO301.out) hb); have n1_ := Aside0.mk (Kd.R_below (by (with_reducible repeat (first | apply Kd.R_alloc | apply Kd.R_drewN | apply Kd.R_drew)); exact HO305.out) hb); have n2_ := Aside0.mk (Kd.V_below (Kd.V_elderB (by (with_reducible repeat (first | apply Kd.V_alloc | apply Kd.V_drewN | apply Kd.V_drew)); exact HO309.out) gb326 (Nat.le_of_eq hg.symm)) hb); have n3_ := Aside0.mk (Kd.R_below (by (with_reducible repeat (first | apply Kd.R_alloc | apply Kd.R_drewN | apply Kd.R_drew)); exact HO315.out) hb); have n4_ := Aside0.mk (Kd.R_below (by (with_reducible repeat (first | apply Kd.R_alloc | apply Kd.R_drewN | apply Kd.R_drew)); exact HO320.out) hb); have n5_ := Aside0.mk (Kd.R_below (by (with_reducible repeat (first | apply Kd.R_alloc | apply Kd.R_drewN | apply Kd.R_drew)); exact HO325.out) hb); have n6_ := Aside0.mk (blk_below (g := gb295) (o := .cells #[.int .i64 t298, .slice Ao33 t299.length co33] 24 (0, 0)) (by (with_reducible repeat (first | refine blk_drewN ?_ _ | refine blk_drew ?_ | refine blk_alloc ?_ _)); exact BK295.out) hb); have n7_ := Aside0.mk (blk_below (g := gb296) (o := .cells #[.int .i64 t302, .slice Ao37 t303.length co37] 24 (0, 0)) (by (with_reducible repeat (first | refine blk_drewN ?_ _ | refine blk_drew ?_ | refine blk_alloc ?_ _)); exact BK296.out) hb); have n8_ := Aside0.mk (blk_below (g := gb310) (o := .cells #[.int .i64 t306, .slice Ao45 t307.length co45] 27 (0, 0)) (by (with_reducible repeat (first | refine blk_drewN ?_ _ | refine blk_drew ?_ | refine blk_alloc ?_ _)); exact BK310.out) hb); have n9_ := Aside0.mk (blk_below (g := gb316) (o := .cells #[.int .i64 t312, .slice Ao54 t313.length co54] 27 (0, 0)) (by (with_reducible repeat (first | refine blk_drewN ?_ _ | refine blk_drew ?_ | refine blk_alloc ?_ _)); exact BK316.out) hb); have n10_ := Aside0.mk (blk_below (g := gb321) (o := .cells #[.int .i64 t317, .slice Ao62 t318.length co62] 27 (0, 0)) (by (with_reducible repeat (first | refine blk_drewN ?_ _ | refine blk_drew ?_ | refine blk_alloc ?_ _)); exact BK321.out) hb); have n11_ := Aside0.mk (below_step (by repeat (first | (with_reducible first | exact HB.out | apply below_alloc | apply pw_below_drewN | apply below_drew1 | refine below_set ?_ GE295.out | refine below_set ?_ GE296.out | refine below_set ?_ GE310.out | refine below_set ?_ GE316.out | refine below_set ?_ GE321.out) | exact HB.out)) hb); have n12_ := Aside0.mk (hbox); have n13_ := Aside0.mk ((by rw [hg]; exact (below_size (by repeat (first | (with_reducible first | exact HB.out | apply below_alloc | apply pw_below_drewN | apply below_drew1 | refine below_set ?_ GE295.out | refine below_set ?_ GE296.out | refine below_set ?_ GE310.out | refine below_set ?_ GE316.out | refine below_set ?_ GE321.out) | exact HB.out))) : w.heap.size ≤ gb326)); have n14_ := Aside0.mk ((by rw [hg]; exact (below_size (by repeat (first | (with_reducible first | exact HB.out | apply below_alloc | apply pw_below_drewN | apply below_drew1 | refine below_set ?_ GE295.out | refine below_set ?_ GE296.out | refine below_set ?_ GE310.out | refine below_set ?_ GE316.out | refine below_set ?_ GE321.out) | exact HB.out))) : w.heap.size ≤ gb326)); have n15_ := Aside0.mk ((by rw [hg]; exact Nat.ne_of_lt (blk_lt (g := gb295) (o := .cells #[.int .i64 t298, .slice Ao33 t299.length co33] 24 (0, 0)) (by (with_reducible repeat (first | refine blk_drewN ?_ _ | refine blk_drew ?_ | refine blk_alloc ?_ _)); exact BK295.out)) : gb295 ≠ gb326)); have n16_ := Aside0.mk ((by rw [hg]; exact Nat.ne_of_gt (blk_lt (g := gb295) (o := .cells #[.int .i64 t298, .slice Ao33 t299.length co33] 24 (0, 0)) (by (with_reducible repeat (first | refine blk_drewN ?_ _ | refine blk_drew ?_ | refine blk_alloc ?_ _)); exact BK295.out)) : gb326 ≠ gb295)); have n17_ := Aside0.mk ((by rw [hg]; exact Nat.ne_of_lt (blk_lt (g := gb296) (o := .cells #[.int .i64 t302, .slice Ao37 t303.length co37] 24 (0, 0)) (by (with_reducible repeat (first | refine blk_drewN ?_ _ | refine blk_drew ?_ | refine blk_alloc ?_ _)); exact BK296.out)) : gb296 ≠ gb326)); have n18_ := Aside0.mk ((by rw [hg]; exact Nat.ne_of_gt (blk_lt (g := gb296) (o := .cells #[.int .i64 t302, .slice Ao37 t303.length co37] 24 (0, 0)) (by (with_reducible repeat (first | refine blk_drewN ?_ _ | refine blk_drew ?_ | refine blk_alloc ?_ _)); exact BK296.out)) : gb326 ≠ gb296)); have n19_ := Aside0.mk ((by rw [hg]; exact Nat.ne_of_lt (blk_lt (g := gb310) (o := .cells #[.int .i64 t306, .slice Ao45 t307.length co45] 27 (0, 0)) (by (with_reducible repeat (first | refine blk_drewN ?_ _ | refine blk_drew ?_ | refine blk_alloc ?_ _)); exact BK310.out)) : gb310 ≠ gb326)); have n20_ := Aside0.mk ((by rw [hg]; exact Nat.ne_of_gt (blk_lt (g := gb310) (o := .cells #[.int .i64 t306, .slice Ao45 t307.length co45] 27 (0, 0)) (by (with_reducible repeat (first | refine blk_drewN ?_ _ | refine blk_drew ?_ | refine blk_alloc ?_ _)); exact BK310.out)) : gb326 ≠ gb310)); have n21_ := Aside0.mk ((by rw [hg]; exact Nat.ne_of_lt (blk_lt (g := gb316) (o := .cells #[.int .i64 t312, .slice Ao54 t313.length co54] 27 (0, 0)) (by (with_reducible repeat (first | refine blk_drewN ?_ _ | refine blk_drew ?_ | refine blk_alloc ?_ _)); exact BK316.out)) : gb316 ≠ gb326)); have n22_ := Aside0.mk ((by rw [hg]; exact Nat.ne_of_gt (blk_lt (g := gb316) (o := .cells #[.int .i64 t312, .slice Ao54 t313.length co54] 27 (0, 0)) (by (with_reducible repeat (first | refine blk_drewN ?_ _ | refine blk_drew ?_ | refine blk_alloc ?_ _)); exact BK316.out)) : gb326 ≠ gb316)); have n23_ := Aside0.mk ((by rw [hg]; exact Nat.ne_of_lt (blk_lt (g := gb321) (o := .cells #[.int .i64 t317, .slice Ao62 t318.length co62] 27 (0, 0)) (by (with_reducible repeat (first | refine blk_drewN ?_ _ | refine blk_drew ?_ | refine blk_alloc ?_ _)); exact BK321.out)) : gb321 ≠ gb326)); have n24_ := Aside0.mk ((by rw [hg]; exact Nat.ne_of_gt (blk_lt (g := gb321) (o := .cells #[.int .i64 t317, .slice Ao62 t318.length co62] 27 (0, 0)) (by (with_reducible repeat (first | refine blk_drewN ?_ _ | refine blk_drew ?_ | refine blk_alloc ?_ _)); exact BK321.out)) : gb326 ≠ gb321)); clear HO301; clear HO305; clear HO309; clear HO315; clear HO320; clear HO325; clear BK295; clear BK296; clear BK310; clear BK316; clear BK321; clear HB; have HO301 := n0_; have HO305 := n1_; have HO309 := n2_; have HO315 := n3_; have HO320 := n4_; have HO325 := n5_; have BK295 := n6_; have BK296 := n7_; have BK310 := n8_; have BK316 := n9_; have BK321 := n10_; have HB := n11_; have BK326 := n12_; have GW326 := n13_; have GE326 := n14_; have NB295_326 := n15_; have NB326_295 := n16_; have NB296_326 := n17_; have NB326_296 := n18_; have NB310_326 := n19_; have NB326_310 := n20_; have NB316_326 := n21_; have NB326_316 := n22_; have NB321_326 := n23_; have NB326_321 := n24_; clear n0_ n1_ n2_ n3_ n4_ n5_ n6_ n7_ n8_ n9_ n10_ n11_ n12_ n13_ n14_ n15_ n16_ n17_ n18_ n19_ n20_ n21_ n22_ n23_ n24_; clear hb hbox hg; have hnb66 := NB326_295.out; have hnc66 := NB295_326.out; have hnb67 := NB326_296.out; have hnc67 := NB296_326.out; have hnb68 := NB326_310.out; have hnc68 := NB310_326.out; have hnb69 := NB326_316.out; have hnc69 := NB316_326.out; have hnb70 := NB326_321.out; have hnc70 := NB321_326.out; have hcz71_0 : w65.cell? ⟨gb326, 0, none⟩ = some (.int .i64 0) := (blk_cell BK326.out 0).trans rfl; have hcz71_1 : w65.cell? ⟨gb326, 1, none⟩ = some (.slice none 0 0) := (blk_cell BK326.out 1).trans rfl; have hfz71_0 := blk_frozen BK326.out 0; have hfz71_1 := blk_frozen BK326.out 1; obtain ⟨Ao72, co72, eo72⟩ := Kd.R_slice HO325.out; subst eo72))
            have n0_ : Aside0 (Kd.R (Kd.int .i64) 3 ((w65.setCell ⟨gb326, 0, none⟩ (.int .i64 t322)).setCell ⟨gb326, 1, none⟩ (.slice Ao72 t323.length co72)) w.heap.size (fun k_ => some k_ ≠ (.slice Ao37 t303.length co37 : Value).ownBlock ∧ some k_ ≠ (.slice Ao54 t313.length co54 : Value).ownBlock ∧ some k_ ≠ (.slice Ao62 t318.length co62 : Value).ownBlock ∧ some k_ ≠ (.slice Ao72 t323.length co72 : Value).ownBlock) (.slice Ao33 t299.length co33) t299) := ⟨by (with_reducible repeat (first | apply Kd.R_alloc | apply Kd.R_drewN | apply Kd.R_drew)); exact Kd.R_mono (Kd.R_far (p := ⟨gb326, 1, none⟩) (Kd.R_far (p := ⟨gb326, 0, none⟩) (Kd.R_types HO301.out BK326.out (by decide)) (fun _ hk => hk.2) (.int .i64 t322)) (fun _ hk => hk.2) (.slice Ao72 t323.length co72)) (fun _ hk => ⟨hk.1.1.1.1, ⟨hk.1.1.1.2, ⟨hk.1.1.2, hk.1.2⟩⟩⟩)⟩
            have n1_ : Aside0 (Kd.R (Kd.int .i64) 3 ((w65.setCell ⟨gb326, 0, none⟩ (.int .i64 t322)).setCell ⟨gb326, 1, none⟩ (.slice Ao72 t323.length co72)) w.heap.size (fun k_ => some k_ ≠ (.slice Ao33 t299.length co33 : Value).ownBlock ∧ some k_ ≠ (.slice Ao54 t313.length co54 : Value).ownBlock ∧ some k_ ≠ (.slice Ao62 t318.length co62 : Value).ownBlock ∧ some k_ ≠ (.slice Ao72 t323.length co72 : Value).ownBlock) (.slice Ao37 t303.length co37) t303) := ⟨by (with_reducible repeat (first | apply Kd.R_alloc | apply Kd.R_drewN | apply Kd.R_drew)); exact Kd.R_mono (Kd.R_far (p := ⟨gb326, 1, none⟩) (Kd.R_far (p := ⟨gb326, 0, none⟩) (Kd.R_types HO305.out BK326.out (by decide)) (fun _ hk => hk.2) (.int .i64 t322)) (fun _ hk => hk.2) (.slice Ao72 t323.length co72)) (fun _ hk => ⟨hk.1.1.1.1, ⟨hk.1.1.1.2, ⟨hk.1.1.2, hk.1.2⟩⟩⟩)⟩
            have n2_ : Aside0 (Kd.V (Kd.int .i64) 3 ((w65.setCell ⟨gb326, 0, none⟩ (.int .i64 t322)).setCell ⟨gb326, 1, none⟩ (.slice Ao72 t323.length co72)) w.heap.size (fun k_ => some k_ ≠ (.slice Ao37 t303.length co37 : Value).ownBlock ∧ some k_ ≠ (.slice Ao54 t313.length co54 : Value).ownBlock ∧ some k_ ≠ (.slice Ao62 t318.length co62 : Value).ownBlock ∧ some k_ ≠ (.slice Ao72 t323.length co72 : Value).ownBlock ∧ k_ ≠ gb295 ∧ k_ ≠ gb296 ∧ k_ ≠ gb310 ∧ k_ ≠ gb316 ∧ k_ ≠ gb321 ∧ k_ ≠ gb326) (.slice Ao45 t307.length co45) t307) := ⟨by (with_reducible repeat (first | apply Kd.V_alloc | apply Kd.V_drewN | apply Kd.V_drew)); exact Kd.V_mono (Kd.V_far (p := ⟨gb326, 1, none⟩) (Kd.V_far (p := ⟨gb326, 0, none⟩) (Kd.V_mono HO309.out (fun k_ hk => (⟨hk, hk.2⟩ : _ ∧ k_ ≠ gb326))) (fun _ hk => hk.2) (.int .i64 t322)) (fun _ hk => hk.2) (.slice Ao72 t323.length co72)) (fun _ hk => ⟨hk.1.1.1.1.1.1.1.1.1, ⟨hk.1.1.1.1.1.1.2, ⟨hk.1.1.1.1.2, ⟨hk.1.1.2, ⟨hk.1.1.1.1.1.1.1.1.2.1, ⟨hk.1.1.1.1.1.1.1.1.2.2, ⟨hk.1.1.1.1.1.1.1.2, ⟨hk.1.1.1.1.1.2, ⟨hk.1.1.1.2, hk.1.2⟩⟩⟩⟩⟩⟩⟩⟩⟩)⟩
            have n3_ : Aside0 (Kd.R (Kd.int .i64) 3 ((w65.setCell ⟨gb326, 0, none⟩ (.int .i64 t322)).setCell ⟨gb326, 1, none⟩ (.slice Ao72 t323.length co72)) w.heap.size (fun k_ => some k_ ≠ (.slice Ao33 t299.length co33 : Value).ownBlock ∧ some k_ ≠ (.slice Ao37 t303.length co37 : Value).ownBlock ∧ some k_ ≠ (.slice Ao62 t318.length co62 : Value).ownBlock ∧ some k_ ≠ (.slice Ao72 t323.length co72 : Value).ownBlock) (.slice Ao54 t313.length co54) t313) := ⟨by (with_reducible repeat (first | apply Kd.R_alloc | apply Kd.R_drewN | apply Kd.R_drew)); exact Kd.R_mono (Kd.R_far (p := ⟨gb326, 1, none⟩) (Kd.R_far (p := ⟨gb326, 0, none⟩) (Kd.R_types HO315.out BK326.out (by decide)) (fun _ hk => hk.2) (.int .i64 t322)) (fun _ hk => hk.2) (.slice Ao72 t323.length co72)) (fun _ hk => ⟨hk.1.1.1.1.2, ⟨hk.1.1.1.2, ⟨hk.1.1.2, hk.1.2⟩⟩⟩)⟩
            have n4_ : Aside0 (Kd.R (Kd.int .i64) 3 ((w65.setCell ⟨gb326, 0, none⟩ (.int .i64 t322)).setCell ⟨gb326, 1, none⟩ (.slice Ao72 t323.length co72)) w.heap.size (fun k_ => some k_ ≠ (.slice Ao33 t299.length co33 : Value).ownBlock ∧ some k_ ≠ (.slice Ao37 t303.length co37 : Value).ownBlock ∧ some k_ ≠ (.slice Ao54 t313.length co54 : Value).ownBlock ∧ some k_ ≠ (.slice Ao72 t323.length co72 : Value).ownBlock) (.slice Ao62 t318.length co62) t318) := ⟨by (with_reducible repeat (first | apply Kd.R_alloc | apply Kd.R_drewN | apply Kd.R_drew)); exact Kd.R_mono (Kd.R_far (p := ⟨gb326, 1, none⟩) (Kd.R_far (p := ⟨gb326, 0, none⟩) (Kd.R_types HO320.out BK326.out (by decide)) (fun _ hk => hk.2) (.int .i64 t322)) (fun _ hk => hk.2) (.slice Ao72 t323.length co72)) (fun _ hk => ⟨hk.1.1.1.1.2, ⟨hk.1.1.1.2, ⟨hk.1.1.2, hk.1.2⟩⟩⟩)⟩
            have n5_ : Aside0 (Kd.R (Kd.int .i64) 3 ((w65.setCell ⟨gb326, 0, none⟩ (.int .i64 t322)).setCell ⟨gb326, 1, none⟩ (.slice Ao72 t323.length co72)) w.heap.size (fun k_ => some k_ ≠ (.slice Ao33 t299.length co33 : Value).ownBlock ∧ some k_ ≠ (.slice Ao37 t303.length co37 : Value).ownBlock ∧ some k_ ≠ (.slice Ao54 t313.length co54 : Value).ownBlock ∧ some k_ ≠ (.slice Ao62 t318.length co62 : Value).ownBlock) (.slice Ao72 t323.length co72) t323) := ⟨by (with_reducible repeat (first | apply Kd.R_alloc | apply Kd.R_drewN | apply Kd.R_drew)); exact Kd.R_mono (Kd.R_far (p := ⟨gb326, 1, none⟩) (Kd.R_far (p := ⟨gb326, 0, none⟩) (Kd.R_types HO325.out BK326.out (by decide)) (fun _ hk => hk.2) (.int .i64 t322)) (fun _ hk => hk.2) (.slice Ao72 t323.length co72)) (fun _ hk => ⟨hk.1.1.1.1.2, ⟨hk.1.1.1.2, ⟨hk.1.1.2, hk.1.2⟩⟩⟩)⟩
            have n6_ : Aside0 (((w65.setCell ⟨gb326, 0, none⟩ (.int .i64 t322)).setCell ⟨gb326, 1, none⟩ (.slice Ao72 t323.length co72)).heap[gb295]? = some (.cells #[.int .i64 t298, .slice Ao33 t299.length co33] 24 (0, 0))) := ⟨by (with_reducible repeat (first | refine blk_drewN ?_ _ | refine blk_drew ?_ | refine blk_alloc ?_ _)); refine blk_far ?_ NB295_326.out _; (with_reducible repeat (first | refine blk_drewN ?_ _ | refine blk_drew ?_ | refine blk_alloc ?_ _)); refine blk_far ?_ NB295_326.out _; (with_reducible repeat (first | refine blk_drewN ?_ _ | refine blk_drew ?_ | refine blk_alloc ?_ _)); exact BK295.out⟩
            have n7_ : Aside0 (((w65.setCell ⟨gb326, 0, none⟩ (.int .i64 t322)).setCell ⟨gb326, 1, none⟩ (.slice Ao72 t323.length co72)).heap[gb296]? = some (.cells #[.int .i64 t302, .slice Ao37 t303.length co37] 24 (0, 0))) := ⟨by (with_reducible repeat (first | refine blk_drewN ?_ _ | refine blk_drew ?_ | refine blk_alloc ?_ _)); refine blk_far ?_ NB296_326.out _; (with_reducible repeat (first | refine blk_drewN ?_ _ | refine blk_drew ?_ | refine blk_alloc ?_ _)); refine blk_far ?_ NB296_326.out _; (with_reducible repeat (first | refine blk_drewN ?_ _ | refine blk_drew ?_ | refine blk_alloc ?_ _)); exact BK296.out⟩
            have n8_ : Aside0 (((w65.setCell ⟨gb326, 0, none⟩ (.int .i64 t322)).setCell ⟨gb326, 1, none⟩ (.slice Ao72 t323.length co72)).heap[gb310]? = some (.cells #[.int .i64 t306, .slice Ao45 t307.length co45] 27 (0, 0))) := ⟨by (with_reducible repeat (first | refine blk_drewN ?_ _ | refine blk_drew ?_ | refine blk_alloc ?_ _)); refine blk_far ?_ NB310_326.out _; (with_reducible repeat (first | refine blk_drewN ?_ _ | refine blk_drew ?_ | refine blk_alloc ?_ _)); refine blk_far ?_ NB310_326.out _; (with_reducible repeat (first | refine blk_drewN ?_ _ | refine blk_drew ?_ | refine blk_alloc ?_ _)); exact BK310.out⟩
            have n9_ : Aside0 (((w65.setCell ⟨gb326, 0, none⟩ (.int .i64 t322)).setCell ⟨gb326, 1, none⟩ (.slice Ao72 t323.length co72)).heap[gb316]? = some (.cells #[.int .i64 t312, .slice Ao54 t313.length co54] 27 (0, 0))) := ⟨by (with_reducible repeat (first | refine blk_drewN ?_ _ | refine blk_drew ?_ | refine blk_alloc ?_ _)); refine blk_far ?_ NB316_326.out _; (with_reducible repeat (first | refine blk_drewN ?_ _ | refine blk_drew ?_ | refine blk_alloc ?_ _)); refine blk_far ?_ NB316_326.out _; (with_reducible repeat (first | refine blk_drewN ?_ _ | refine blk_drew ?_ | refine blk_alloc ?_ _)); exact BK316.out⟩
            have n10_ : Aside0 (((w65.setCell ⟨gb326, 0, none⟩ (.int .i64 t322)).setCell ⟨gb326, 1, none⟩ (.slice Ao72 t323.length co72)).heap[gb321]? = some (.cells #[.int .i64 t317, .slice Ao62 t318.length co62] 27 (0, 0))) := ⟨by (with_reducible repeat (first | refine blk_drewN ?_ _ | refine blk_drew ?_ | refine blk_alloc ?_ _)); refine blk_far ?_ NB321_326.out _; (with_reducible repeat (first | refine blk_drewN ?_ _ | refine blk_drew ?_ | refine blk_alloc ?_ _)); refine blk_far ?_ NB321_326.out _; (with_reducible repeat (first | refine blk_drewN ?_ _ | refine blk_drew ?_ | refine blk_alloc ?_ _)); exact BK321.out⟩
            have n11_ : Aside0 (((w65.setCell ⟨gb326, 0, none⟩ (.int .i64 t322)).setCell ⟨gb326, 1, none⟩ (.slice Ao72 t323.length co72)).heap[gb326]? = some (.cells #[.int .i64 t322, .slice Ao72 t323.length co72] 27 (0, 0))) := ⟨by (with_reducible repeat (first | refine blk_drewN ?_ _ | refine blk_drew ?_ | refine blk_alloc ?_ _)); refine blk_put (cs := #[.int .i64 t322, .slice none 0 0]) ?_ 1 _ rfl; (with_reducible repeat (first | refine blk_drewN ?_ _ | refine blk_drew ?_ | refine blk_alloc ?_ _)); refine blk_put (cs := #[.int .i64 0, .slice none 0 0]) ?_ 0 _ rfl; (with_reducible repeat (first | refine blk_drewN ?_ _ | refine blk_drew ?_ | refine blk_alloc ?_ _)); exact BK326.out⟩
            have n12_ : Aside0 (Below w.heap.size w ((w65.setCell ⟨gb326, 0, none⟩ (.int .i64 t322)).setCell ⟨gb326, 1, none⟩ (.slice Ao72 t323.length co72))) := ⟨by repeat (first | (with_reducible first | exact HB.out | apply below_alloc | apply pw_below_drewN | apply below_drew1 | refine below_set ?_ GE295.out | refine below_set ?_ GE296.out | refine below_set ?_ GE310.out | refine below_set ?_ GE316.out | refine below_set ?_ GE321.out | refine below_set ?_ GE326.out) | exact HB.out)⟩
            (try clear HO301)
            (try clear HO305)
            (try clear HO309)
            (try clear HO315)
            (try clear HO320)
            (try clear HO325)
            (try clear BK295)
            (try clear BK296)
            (try clear BK310)
            (try clear BK316)
            (try clear BK321)
            (try clear BK326)
            (try clear HB)
            generalize ((w65.setCell ⟨gb326, 0, none⟩ (.int .i64 t322)).setCell ⟨gb326, 1, none⟩ (.slice Ao72 t323.length co72)) = w73 at n0_ n1_ n2_ n3_ n4_ n5_ n6_ n7_ n8_ n9_ n10_ n11_ n12_ ⊢
            have HO301 := n0_
            have HO305 := n1_
            have HO309 := n2_
            have HO315 := n3_
            have HO320 := n4_
            have HO325 := n5_
            have BK295 := n6_
            have BK296 := n7_
            have BK310 := n8_
            have BK316 := n9_
            have BK321 := n10_
            have BK326 := n11_
            have HB := n12_
            clear n0_ n1_ n2_ n3_ n4_ n5_ n6_ n7_ n8_ n9_ n10_ n11_ n12_
            have n0_ := Aside0.mk (Kd.R_drew HO301.out)
            have n1_ := Aside0.mk (Kd.R_drew HO305.out)
            have n2_ := Aside0.mk (Kd.V_drew HO309.out)
            have n3_ := Aside0.mk (Kd.R_drew HO315.out)
            have n4_ := Aside0.mk (Kd.R_drew HO320.out)
            have n5_ := Aside0.mk (Kd.R_drew HO325.out)
            have n6_ := Aside0.mk (blk_drew BK295.out)
            have n7_ := Aside0.mk (blk_drew BK296.out)
            have n8_ := Aside0.mk (blk_drew BK310.out)
            have n9_ := Aside0.mk (blk_drew BK316.out)
            have n10_ := Aside0.mk (blk_drew BK321.out)
            have n11_ := Aside0.mk (blk_drew BK326.out)
            have n12_ := Aside0.mk (below_drew1 HB.out)
            clear HO301
            clear HO305
            clear HO309
            clear HO315
            clear HO320
            clear HO325
            clear BK295
            clear BK296
            clear BK310
            clear BK316
            clear BK321
            clear BK326
            clear HB
            have HO301 := n0_
            have HO305 := n1_
            have HO309 := n2_
            have HO315 := n3_
            have HO320 := n4_
            have HO325 := n5_
            have BK295 := n6_
            have BK296 := n7_
            have BK310 := n8_
            have BK316 := n9_
            have BK321 := n10_
            have BK326 := n11_
            have HB := n12_
            clear n0_ n1_ n2_ n3_ n4_ n5_ n6_ n7_ n8_ n9_ n10_ n11_ n12_
            refine start_ (n := 50) (S := fun w' => w'.cell? ⟨gb316, 0, none⟩ = some (.int .i64 t312) ∧ w'.cell? ⟨gb316, 1, none⟩ = some (.slice Ao54 t313.length co54) ∧ w'.cell? ⟨gb310, 0, none⟩ = some (.int .i64 t306) ∧ w'.cell? ⟨gb310, 1, none⟩ = some (.slice Ao45 t307.length co45) ∧ w'.cell? ⟨gb321, 0, none⟩ = some (.int .i64 t317) ∧ w'.cell? ⟨gb321, 1, none⟩ = some (.slice Ao62 t318.length co62) ∧ w'.cell? ⟨gb326, 0, none⟩ = some (.int .i64 t322) ∧ w'.cell? ⟨gb326, 1, none⟩ = some (.slice Ao72 t323.length co72) ∧ w'.cell? ⟨gb295, 0, none⟩ = some (.int .i64 t298) ∧ w'.cell? ⟨gb295, 1, none⟩ = some (.slice Ao33 t299.length co33) ∧ w'.cell? ⟨gb296, 0, none⟩ = some (.int .i64 t302) ∧ w'.cell? ⟨gb296, 1, none⟩ = some (.slice Ao37 t303.length co37)) (ds := []) #[false, false, false, false, false, false, false, false, false, false, false, false, false, false, false, false, false, false, false, false, false, false, false, false, false, false, false, false, false, false, false, false, false, false, false, false, false, false, false, false, false, false, false, false, false, false, false, false, false, false] (by kernel_rfl) rfl rfl ⟨(blk_cell BK316.out 0).trans rfl, (blk_cell BK316.out 1).trans rfl, (blk_cell BK310.out 0).trans rfl, (blk_cell BK310.out 1).trans rfl, (blk_cell BK321.out 0).trans rfl, (blk_cell BK321.out 1).trans rfl, (blk_cell BK326.out 0).trans rfl, (blk_cell BK326.out 1).trans rfl, (blk_cell BK295.out 0).trans rfl, (blk_cell BK295.out 1).trans rfl, (blk_cell BK296.out 0).trans rfl, (blk_cell BK296.out 1).trans rfl⟩ (fun hHeld => ?_); refine with_tabW clavierlaw08_StackPuts.tab9 clavierlaw08_StackPuts.bits9 (fun HT_ HW_ => ?_)
            generalize w73.drew = w74 at HO301 HO305 HO309 HO315 HO320 HO325 BK295 BK296 BK310 BK316 BK321 BK326 HB hHeld ⊢
            refine pure_ (i := 0) (N := some 31) (v := ?_) (a' := ?_) #[true, false, false, false, false, false, false, false, false, false, false, false, false, false, false, false, false, false, false, false, false, false, false, false, false, false, false, false, false, false, false, false, false, false, false, false, false, false, false, false, false, false, false, false, false, false, false, false, false, false] rfl rfl (any_of HT_.out (by kernel_rfl)) (fun _ _ _ h => h) (Or.inl ⟨by rfl, ?_⟩) ?_ ?_
            rotate_left
            · intro w'
              go_simp
              with_reducible rfl
            rotate_left
            · simp only [Act.put, List.setIfInBounds_toArray, List.set_cons_zero, List.set_cons_succ, i64_w, i32_w]
              rfl
            refine pure_ (i := 1) (N := some 32) (v := ?_) (a' := ?_) #[true, true, false, false, false, false, false, false, false, false, false, false, false, false, false, false, false, false, false, false, false, false, false, false, false, false, false, false, false, false, false, false, false, false, false, false, false, false, false, false, false, false, false, false, false, false, false, false, false, false] rfl rfl (any_of HT_.out (by kernel_rfl)) (fun _ _ _ h => h) (Or.inl ⟨by rfl, ?_⟩) ?_ ?_
            rotate_left
            · intro w'
              go_simp
              with_reducible rfl
            rotate_left
            · simp only [Act.put, List.setIfInBounds_toArray, List.set_cons_zero, List.set_cons_succ, i64_w, i32_w]
              rfl
            refine pure_ (i := 2) (N := some 33) (v := ?_) (a' := ?_) #[true, true, true, false, false, false, false, false, false, false, false, false, false, false, false, false, false, false, false, false, false, false, false, false, false, false, false, false, false, false, false, false, false, false, false, false, false, false, false, false, false, false, false, false, false, false, false, false, false, false] rfl rfl (any_of HT_.out (by kernel_rfl)) (fun _ _ _ h => h) (Or.inl ⟨by rfl, ?_⟩) ?_ ?_
            rotate_left
            · intro w'
              go_simp
              with_reducible rfl
            rotate_left
            · simp only [Act.put, List.setIfInBounds_toArray, List.set_cons_zero, List.set_cons_succ, i64_w, i32_w]
              rfl
            refine pure_ (i := 4) (N := some 35) (v := ?_) (a' := ?_) #[true, true, true, false, true, false, false, false, false, false, false, false, false, false, false, false, false, false, false, false, false, false, false, false, false, false, false, false, false, false, false, false, false, false, false, false, false, false, false, false, false, false, false, false, false, false, false, false, false, false] rfl rfl (any_of HT_.out (by kernel_rfl)) (fun _ _ _ h => h) (Or.inl ⟨by rfl, ?_⟩) ?_ ?_
            rotate_left
            · intro w'
              go_simp
              with_reducible rfl
            rotate_left
            · simp only [Act.put, List.setIfInBounds_toArray, List.set_cons_zero, List.set_cons_succ, i64_w, i32_w]
              rfl
            refine pure_ (i := 6) (N := some 37) (v := ?_) (a' := ?_) #[true, true, true, false, true, false, true, false, false, false, false, false, false, false, false, false, false, false, false, false, false, false, false, false, false, false, false, false, false, false, false, false, false, false, false, false, false, false, false, false, false, false, false, false, false, false, false, false, false, false] rfl rfl (any_of HT_.out (by kernel_rfl)) (fun _ _ _ h => h) (Or.inl ⟨by rfl, ?_⟩) ?_ ?_
            rotate_left
            · intro w'
              go_simp
              with_reducible rfl
            rotate_left
            · simp only [Act.put, List.setIfInBounds_toArray, List.set_cons_zero, List.set_cons_succ, i64_w, i32_w]
              rfl
            refine pure_ (i := 8) (N := some 39) (v := ?_) (a' := ?_) #[true, true, true, false, true, false, true, false, true, false, false, false, false, false, false, false, false, false, false, false, false, false, false, false, false, false, false, false, false, false, false, false, false, false, false, false, false, false, false, false, false, false, false, false, false, false, false, false, false, false] rfl rfl (any_of HT_.out (by kernel_rfl)) (fun _ _ _ h => h) (Or.inl ⟨by rfl, ?_⟩) ?_ ?_
            rotate_left
            · intro w'
              go_simp
              with_reducible rfl
            rotate_left
            · simp only [Act.put, List.setIfInBounds_toArray, List.set_cons_zero, List.set_cons_succ, i64_w, i32_w]
              rfl
            refine pure_ (i := 10) (N := some 41) (v := ?_) (a' := ?_) #[true, true, true, false, true, false, true, false, true, false, true, false, false, false, false, false, false, false, false, false, false, false, false, false, false, false, false, false, false, false, false, false, false, false, false, false, false, false, false, false, false, false, false, false, false, false, false, false, false, false] rfl rfl (any_of HT_.out (by kernel_rfl)) (fun _ _ _ h => h) (Or.inl ⟨by rfl, ?_⟩) ?_ ?_
            rotate_left
            · intro w'
              go_simp
              with_reducible rfl
            rotate_left
            · simp only [Act.put, List.setIfInBounds_toArray, List.set_cons_zero, List.set_cons_succ, i64_w, i32_w]
              rfl
            refine take_ (i := 3) (N := some 34) (v := ?_) (a' := ?_) #[true, true, true, true, true, false, true, false, true, false, true, false, false, false, false, false, false, false, false, false, false, false, false, false, false, false, false, false, false, false, false, false, false, false, false, false, false, false, false, false, false, false, false, false, false, false, false, false, false, false] rfl rfl (take_ofW HT_.out HW_.out (by kernel_rfl)) (fun _ _ _ h => h) (Or.inl ⟨by rfl, ?_⟩) hHeld ?_ ?_
            rotate_left
            · rintro w' ⟨s0, s1, s2, s3, s4, s5, s6, s7, s8, s9, s10, s11⟩
              go_simp
              with_reducible rfl
            rotate_left
            · simp only [Act.put, List.setIfInBounds_toArray, List.set_cons_zero, List.set_cons_succ, i64_w, i32_w]
              rfl
            refine take_ (i := 5) (N := some 36) (v := ?_) (a' := ?_) #[true, true, true, true, true, true, true, false, true, false, true, false, false, false, false, false, false, false, false, false, false, false, false, false, false, false, false, false, false, false, false, false, false, false, false, false, false, false, false, false, false, false, false, false, false, false, false, false, false, false] rfl rfl (take_ofW HT_.out HW_.out (by kernel_rfl)) (fun _ _ _ h => h) (Or.inl ⟨by rfl, ?_⟩) hHeld ?_ ?_
            rotate_left
            · rintro w' ⟨s0, s1, s2, s3, s4, s5, s6, s7, s8, s9, s10, s11⟩
              go_simp
              with_reducible rfl
            rotate_left
            · simp only [Act.put, List.setIfInBounds_toArray, List.set_cons_zero, List.set_cons_succ, i64_w, i32_w]
              rfl
            refine pure_ (i := 7) (N := some 38) (v := ?_) (a' := ?_) #[true, true, true, true, true, true, true, true, true, false, true, false, false, false, false, false, false, false, false, false, false, false, false, false, false, false, false, false, false, false, false, false, false, false, false, false, false, false, false, false, false, false, false, false, false, false, false, false, false, false] rfl rfl (any_of HT_.out (by kernel_rfl)) (fun _ _ _ h => h) (Or.inl ⟨by rfl, ?_⟩) ?_ ?_
            rotate_left
            · intro w'
              go_simp
              with_reducible rfl
            rotate_left
            · simp only [Act.put, List.setIfInBounds_toArray, List.set_cons_zero, List.set_cons_succ, i64_w, i32_w]
              rfl
            refine take_ (i := 9) (N := some 40) (v := ?_) (a' := ?_) #[true, true, true, true, true, true, true, true, true, true, true, false, false, false, false, false, false, false, false, false, false, false, false, false, false, false, false, false, false, false, false, false, false, false, false, false, false, false, false, false, false, false, false, false, false, false, false, false, false, false] rfl rfl (take_ofW HT_.out HW_.out (by kernel_rfl)) (fun _ _ _ h => h) (Or.inl ⟨by rfl, ?_⟩) hHeld ?_ ?_
            rotate_left
            · rintro w' ⟨s0, s1, s2, s3, s4, s5, s6, s7, s8, s9, s10, s11⟩
              go_simp
              with_reducible rfl
            rotate_left
            · simp only [Act.put, List.setIfInBounds_toArray, List.set_cons_zero, List.set_cons_succ, i64_w, i32_w]
              rfl
            refine one_ (i := 11) (N := some 42) #[true, true, true, true, true, true, true, true, true, true, true, true, false, false, false, false, false, false, false, false, false, false, false, false, false, false, false, false, false, false, false, false, false, false, false, false, false, false, false, false, false, false, false, false, false, false, false, false, false, false] rfl rfl (one_of HT_.out (by kernel_rfl)) (by decide) (fun K hK => ?_)
            refine goes_ Try.func21 (by kernel_rfl) rfl #[.int .i64 t306, .int .i64 t311] (by rfl) rfl rfl (by (try simp only [List.map_toArray, List.map_cons, List.map_nil]); first | done | rfl | (simp only [List.length_drop, List.length_take]; rfl)) ?_
            with_reducible refine (clavierlaw08_both.calls k t306 t311 t327 _ A13.out).mono ?_
            rintro e w' ⟨rfl, ⟨nd, rfl⟩⟩
            refine ⟨_, rfl, ?_⟩
            refine hK.out _ _ ⟨(blk_cell BK316.out 0).trans rfl, (blk_cell BK316.out 1).trans rfl, (blk_cell BK310.out 0).trans rfl, (blk_cell BK310.out 1).trans rfl, (blk_cell BK321.out 0).trans rfl, (blk_cell BK321.out 1).trans rfl, (blk_cell BK326.out 0).trans rfl, (blk_cell BK326.out 1).trans rfl, (blk_cell BK295.out 0).trans rfl, (blk_cell BK295.out 1).trans rfl, (blk_cell BK296.out 0).trans rfl, (blk_cell BK296.out 1).trans rfl⟩ (fun hHeld => ?_)
            clear hK K
            refine norm_ (a' := ?_) ?_ ?_
            rotate_left
            · show Act.put _ (some 42) _ = _
              simp only [Act.put, List.setIfInBounds_toArray, List.set_cons_zero, List.set_cons_succ, i64_w, i32_w]
              rfl
            refine pure_ (i := 12) (N := some 43) (v := ?_) (a' := ?_) #[true, true, true, true, true, true, true, true, true, true, true, true, true, false, false, false, false, false, false, false, false, false, false, false, false, false, false, false, false, false, false, false, false, false, false, false, false, false, false, false, false, false, false, false, false, false, false, false, false, false] rfl rfl (any_of HT_.out (by kernel_rfl)) (fun _ _ _ h => h) (Or.inl ⟨by rfl, ?_⟩) ?_ ?_
            rotate_left
            · intro w'
              go_simp
              with_reducible rfl
            rotate_left
            · simp only [Act.put, List.setIfInBounds_toArray, List.set_cons_zero, List.set_cons_succ, i64_w, i32_w]
              rfl
            refine pure_ (i := 13) (N := some 44) (v := ?_) (a' := ?_) #[true, true, true, true, true, true, true, true, true, true, true, true, true, true, false, false, false, false, false, false, false, false, false, false, false, false, false, false, false, false, false, false, false, false, false, false, false, false, false, false, false, false, false, false, false, false, false, false, false, false] rfl rfl (any_of HT_.out (by kernel_rfl)) (fun _ _ _ h => h) (Or.inl ⟨by rfl, ?_⟩) ?_ ?_
            rotate_left
            · intro w'
              go_simp
              with_reducible rfl
            rotate_left
            · simp only [Act.put, List.setIfInBounds_toArray, List.set_cons_zero, List.set_cons_succ, i64_w, i32_w]
              rfl
            refine pure_ (i := 14) (N := some 45) (v := ?_) (a' := ?_) #[true, true, true, true, true, true, true, true, true, true, true, true, true, true, true, false, false, false, false, false, false, false, false, false, false, false, false, false, false, false, false, false, false, false, false, false, false, false, false, false, false, false, false, false, false, false, false, false, false, false] rfl rfl (any_of HT_.out (by kernel_rfl)) (fun _ _ _ h => h) (Or.inl ⟨by rfl, ?_⟩) ?_ ?_
            rotate_left
            · intro w'
              go_simp
              with_reducible rfl
            rotate_left
            · simp only [Act.put, List.setIfInBounds_toArray, List.set_cons_zero, List.set_cons_succ, i64_w, i32_w]
              rfl
            refine pure_ (i := 15) (N := some 46) (v := ?_) (a' := ?_) #[true, true, true, true, true, true, true, true, true, true, true, true, true, true, true, true, false, false, false, false, false, false, false, false, false, false, false, false, false, false, false, false, false, false, false, false, false, false, false, false, false, false, false, false, false, false, false, false, false, false] rfl rfl (any_of HT_.out (by kernel_rfl)) (fun _ _ _ h => h) (Or.inl ⟨by rfl, ?_⟩) ?_ ?_
            rotate_left
            · intro w'
              go_simp
              with_reducible rfl
            rotate_left
            · simp only [Act.put, List.setIfInBounds_toArray, List.set_cons_zero, List.set_cons_succ, i64_w, i32_w]
              rfl
            refine pure_ (i := 16) (N := some 47) (v := ?_) (a' := ?_) #[true, true, true, true, true, true, true, true, true, true, true, true, true, true, true, true, true, false, false, false, false, false, false, false, false, false, false, false, false, false, false, false, false, false, false, false, false, false, false, false, false, false, false, false, false, false, false, false, false, false] rfl rfl (any_of HT_.out (by kernel_rfl)) (fun _ _ _ h => h) (Or.inl ⟨by rfl, ?_⟩) ?_ ?_
            rotate_left
            · intro w'
              go_simp
              with_reducible rfl
            rotate_left
            · simp only [Act.put, List.setIfInBounds_toArray, List.set_cons_zero, List.set_cons_succ, i64_w, i32_w]
              rfl
            refine pure_ (i := 18) (N := some 49) (v := ?_) (a' := ?_) #[true, true, true, true, true, true, true, true, true, true, true, true, true, true, true, true, true, false, true, false, false, false, false, false, false, false, false, false, false, false, false, false, false, false, false, false, false, false, false, false, false, false, false, false, false, false, false, false, false, false] rfl rfl (any_of HT_.out (by kernel_rfl)) (fun _ _ _ h => h) (Or.inl ⟨by rfl, ?_⟩) ?_ ?_
            rotate_left
            · intro w'
              go_simp
              with_reducible rfl
            rotate_left
            · simp only [Act.put, List.setIfInBounds_toArray, List.set_cons_zero, List.set_cons_succ, i64_w, i32_w]
              rfl
            refine pure_ (i := 20) (N := some 51) (v := ?_) (a' := ?_) #[true, true, true, true, true, true, true, true, true, true, true, true, true, true, true, true, true, false, true, false, true, false, false, false, false, false, false, false, false, false, false, false, false, false, false, false, false, false, false, false, false, false, false, false, false, false, false, false, false, false] rfl rfl (any_of HT_.out (by kernel_rfl)) (fun _ _ _ h => h) (Or.inl ⟨by rfl, ?_⟩) ?_ ?_
            rotate_left
            · intro w'
              go_simp
              with_reducible rfl
            rotate_left
            · simp only [Act.put, List.setIfInBounds_toArray, List.set_cons_zero, List.set_cons_succ, i64_w, i32_w]
              rfl
            refine pure_ (i := 22) (N := some 53) (v := ?_) (a' := ?_) #[true, true, true, true, true, true, true, true, true, true, true, true, true, true, true, true, true, false, true, false, true, false, true, false, false, false, false, false, false, false, false, false, false, false, false, false, false, false, false, false, false, false, false, false, false, false, false, false, false, false] rfl rfl (any_of HT_.out (by kernel_rfl)) (fun _ _ _ h => h) (Or.inl ⟨by rfl, ?_⟩) ?_ ?_
            rotate_left
            · intro w'
              go_simp
              with_reducible rfl
            rotate_left
            · simp only [Act.put, List.setIfInBounds_toArray, List.set_cons_zero, List.set_cons_succ, i64_w, i32_w]
              rfl
            refine take_ (i := 17) (N := some 48) (v := ?_) (a' := ?_) #[true, true, true, true, true, true, true, true, true, true, true, true, true, true, true, true, true, true, true, false, true, false, true, false, false, false, false, false, false, false, false, false, false, false, false, false, false, false, false, false, false, false, false, false, false, false, false, false, false, false] rfl rfl (take_ofW HT_.out HW_.out (by kernel_rfl)) (fun _ _ _ h => h) (Or.inl ⟨by rfl, ?_⟩) hHeld ?_ ?_
            rotate_left
            · rintro w' ⟨s0, s1, s2, s3, s4, s5, s6, s7, s8, s9, s10, s11⟩
              go_simp
              with_reducible rfl
            rotate_left
            · simp only [Act.put, List.setIfInBounds_toArray, List.set_cons_zero, List.set_cons_succ, i64_w, i32_w]
              rfl
            refine take_ (i := 19) (N := some 50) (v := ?_) (a' := ?_) #[true, true, true, true, true, true, true, true, true, true, true, true, true, true, true, true, true, true, true, true, true, false, true, false, false, false, false, false, false, false, false, false, false, false, false, false, false, false, false, false, false, false, false, false, false, false, false, false, false, false] rfl rfl (take_ofW HT_.out HW_.out (by kernel_rfl)) (fun _ _ _ h => h) (Or.inl ⟨by rfl, ?_⟩) hHeld ?_ ?_
            rotate_left
            · rintro w' ⟨s0, s1, s2, s3, s4, s5, s6, s7, s8, s9, s10, s11⟩
              go_simp
              with_reducible rfl
            rotate_left
            · simp only [Act.put, List.setIfInBounds_toArray, List.set_cons_zero, List.set_cons_succ, i64_w, i32_w]
              rfl
            refine take_ (i := 21) (N := some 52) (v := ?_) (a' := ?_) #[true, true, true, true, true, true, true, true, true, true, true, true, true, true, true, true, true, true, true, true, true, true, true, false, false, false, false, false, false, false, false, false, false, false, false, false, false, false, false, false, false, false, false, false, false, false, false, false, false, false] rfl rfl (take_ofW HT_.out HW_.out (by kernel_rfl)) (fun _ _ _ h => h) (Or.inl ⟨by rfl, ?_⟩) hHeld ?_ ?_
            rotate_left
            · rintro w' ⟨s0, s1, s2, s3, s4, s5, s6, s7, s8, s9, s10, s11⟩
              go_simp
              with_reducible rfl
            rotate_left
            · simp only [Act.put, List.setIfInBounds_toArray, List.set_cons_zero, List.set_cons_succ, i64_w, i32_w]
              rfl
            refine one_ (i := 23) (N := some 54) #[true, true, true, true, true, true, true, true, true, true, true, true, true, true, true, true, true, true, true, true, true, true, true, true, false, false, false, false, false, false, false, false, false, false, false, false, false, false, false, false, false, false, false, false, false, false, false, false, false, false] rfl rfl (one_of HT_.out (by kernel_rfl)) (by decide) (fun K hK => ?_)
            refine goes_ Try.func21 (by kernel_rfl) rfl #[.int .i64 t306, .int .i64 t311] (by rfl) rfl rfl (by (try simp only [List.map_toArray, List.map_cons, List.map_nil]); first | done | rfl | (simp only [List.length_drop, List.length_take]; rfl)) ?_
            with_reducible refine (clavierlaw08_both.calls k t306 t311 t328 _ A15.out).mono ?_
            rintro e w' ⟨rfl, ⟨nd, rfl⟩⟩
            refine ⟨_, rfl, ?_⟩
            refine hK.out _ _ ⟨(blk_cell BK316.out 0).trans rfl, (blk_cell BK316.out 1).trans rfl, (blk_cell BK310.out 0).trans rfl, (blk_cell BK310.out 1).trans rfl, (blk_cell BK321.out 0).trans rfl, (blk_cell BK321.out 1).trans rfl, (blk_cell BK326.out 0).trans rfl, (blk_cell BK326.out 1).trans rfl, (blk_cell BK295.out 0).trans rfl, (blk_cell BK295.out 1).trans rfl, (blk_cell BK296.out 0).trans rfl, (blk_cell BK296.out 1).trans rfl⟩ (fun hHeld => ?_)
            clear hK K
            refine norm_ (a' := ?_) ?_ ?_
            rotate_left
            · show Act.put _ (some 54) _ = _
              simp only [Act.put, List.setIfInBounds_toArray, List.set_cons_zero, List.set_cons_succ, i64_w, i32_w]
              rfl
            refine pure_ (i := 24) (N := some 55) (v := ?_) (a' := ?_) #[true, true, true, true, true, true, true, true, true, true, true, true, true, true, true, true, true, true, true, true, true, true, true, true, true, false, false, false, false, false, false, false, false, false, false, false, false, false, false, false, false, false, false, false, false, false, false, false, false, false] rfl rfl (any_of HT_.out (by kernel_rfl)) (fun _ _ _ h => h) (Or.inl ⟨by rfl, ?_⟩) ?_ ?_
            rotate_left
            · intro w'
              go_simp
              with_reducible rfl
            rotate_left
            · simp only [Act.put, List.setIfInBounds_toArray, List.set_cons_zero, List.set_cons_succ, i64_w, i32_w]
              rfl
            refine pure_ (i := 25) (N := some 56) (v := ?_) (a' := ?_) #[true, true, true, true, true, true, true, true, true, true, true, true, true, true, true, true, true, true, true, true, true, true, true, true, true, true, false, false, false, false, false, false, false, false, false, false, false, false, false, false, false, false, false, false, false, false, false, false, false, false] rfl rfl (any_of HT_.out (by kernel_rfl)) (fun _ _ _ h => h) (Or.inl ⟨by rfl, ?_⟩) ?_ ?_
            rotate_left
            · intro w'
              go_simp
              with_reducible rfl
            rotate_left
            · simp only [Act.put, List.setIfInBounds_toArray, List.set_cons_zero, List.set_cons_succ, i64_w, i32_w]
              rfl
            refine pure_ (i := 26) (N := some 57) (v := ?_) (a' := ?_) #[true, true, true, true, true, true, true, true, true, true, true, true, true, true, true, true, true, true, true, true, true, true, true, true, true, true, true, false, false, false, false, false, false, false, false, false, false, false, false, false, false, false, false, false, false, false, false, false, false, false] rfl rfl (any_of HT_.out (by kernel_rfl)) (fun _ _ _ h => h) (Or.inl ⟨by rfl, ?_⟩) ?_ ?_
            rotate_left
            · intro w'
              go_simp
              with_reducible rfl
            rotate_left
            · simp only [Act.put, List.setIfInBounds_toArray, List.set_cons_zero, List.set_cons_succ, i64_w, i32_w]
              rfl
            refine pure_ (i := 27) (N := some 58) (v := ?_) (a' := ?_) #[true, true, true, true, true, true, true, true, true, true, true, true, true, true, true, true, true, true, true, true, true, true, true, true, true, true, true, true, false, false, false, false, false, false, false, false, false, false, false, false, false, false, false, false, false, false, false, false, false, false] rfl rfl (any_of HT_.out (by kernel_rfl)) (fun _ _ _ h => h) (Or.inl ⟨by rfl, ?_⟩) ?_ ?_
            rotate_left
            · intro w'
              go_simp
              with_reducible rfl
            rotate_left
            · simp only [Act.put, List.setIfInBounds_toArray, List.set_cons_zero, List.set_cons_succ, i64_w, i32_w]
              rfl
            refine take_ (i := 28) (N := some 59) (v := ?_) (a' := ?_) #[true, true, true, true, true, true, true, true, true, true, true, true, true, true, true, true, true, true, true, true, true, true, true, true, true, true, true, true, true, false, false, false, false, false, false, false, false, false, false, false, false, false, false, false, false, false, false, false, false, false] rfl rfl (take_ofW HT_.out HW_.out (by kernel_rfl)) (fun _ _ _ h => h) (Or.inl ⟨by rfl, ?_⟩) hHeld ?_ ?_
            rotate_left
            · rintro w' ⟨s0, s1, s2, s3, s4, s5, s6, s7, s8, s9, s10, s11⟩
              go_simp
              with_reducible rfl
            rotate_left
            · simp only [Act.put, List.setIfInBounds_toArray, List.set_cons_zero, List.set_cons_succ, i64_w, i32_w]
              rfl
            refine take_ (i := 29) (N := some 60) (v := ?_) (a' := ?_) #[true, true, true, true, true, true, true, true, true, true, true, true, true, true, true, true, true, true, true, true, true, true, true, true, true, true, true, true, true, true, false, false, false, false, false, false, false, false, false, false, false, false, false, false, false, false, false, false, false, false] rfl rfl (take_ofW HT_.out HW_.out (by kernel_rfl)) (fun _ _ _ h => h) (Or.inl ⟨by rfl, ?_⟩) hHeld ?_ ?_
            rotate_left
            · rintro w' ⟨s0, s1, s2, s3, s4, s5, s6, s7, s8, s9, s10, s11⟩
              go_simp
              with_reducible rfl
            rotate_left
            · simp only [Act.put, List.setIfInBounds_toArray, List.set_cons_zero, List.set_cons_succ, i64_w, i32_w]
              rfl
            refine one_ (i := 30) (N := some 61) #[true, true, true, true, true, true, true, true, true, true, true, true, true, true, true, true, true, true, true, true, true, true, true, true, true, true, true, true, true, true, true, false, false, false, false, false, false, false, false, false, false, false, false, false, false, false, false, false, false, false] rfl rfl (one_of HT_.out (by kernel_rfl)) (by decide) (fun K hK => ?_)
            refine goes_ Try.func12 (by kernel_rfl) rfl #[.agg #[.int .i64 t322, .slice Ao72 t323.length co72], .agg #[.int .i64 t298, .slice Ao33 t299.length co33]] (by rfl) rfl rfl (by (try simp only [List.map_toArray, List.map_cons, List.map_nil]); first | done | rfl | (simp only [List.length_drop, List.length_take]; rfl)) ?_
            with_reducible refine (clavierlaw08_same.calls k t322 _ _ t323 t298 _ _ t299 true _ ?side1 ?side2 ?side3 ?side4 A17.out).mono ?_
            (case side1 => repeat (first | exact (Kd.R_reads' HO325.out).2.2 | (with_reducible refine Kd.C_alloc ?_ _) | (with_reducible refine Kd.C_drewN ?_ _) | (with_reducible refine Kd.C_drew ?_)))
            (case side2 => exact (Kd.R_reads' HO325.out).2.1)
            (case side3 => repeat (first | exact (Kd.R_reads' HO301.out).2.2 | (with_reducible refine Kd.C_alloc ?_ _) | (with_reducible refine Kd.C_drewN ?_ _) | (with_reducible refine Kd.C_drew ?_)))
            (case side4 => exact (Kd.R_reads' HO301.out).2.1)
            rintro e w75 ⟨rfl, hb⟩
            refine ⟨_, rfl, ?_⟩
            have n0_ := Aside0.mk (Kd.R_below (by (with_reducible repeat (first | apply Kd.R_alloc | apply Kd.R_drewN | apply Kd.R_drew)); exact HO301.out) hb)
            have n1_ := Aside0.mk (Kd.R_below (by (with_reducible repeat (first | apply Kd.R_alloc | apply Kd.R_drewN | apply Kd.R_drew)); exact HO305.out) hb)
            have n2_ := Aside0.mk (Kd.V_below (by (with_reducible repeat (first | apply Kd.V_alloc | apply Kd.V_drewN | apply Kd.V_drew)); exact HO309.out) hb)
            have n3_ := Aside0.mk (Kd.R_below (by (with_reducible repeat (first | apply Kd.R_alloc | apply Kd.R_drewN | apply Kd.R_drew)); exact HO315.out) hb)
            have n4_ := Aside0.mk (Kd.R_below (by (with_reducible repeat (first | apply Kd.R_alloc | apply Kd.R_drewN | apply Kd.R_drew)); exact HO320.out) hb)
            have n5_ := Aside0.mk (Kd.R_below (by (with_reducible repeat (first | apply Kd.R_alloc | apply Kd.R_drewN | apply Kd.R_drew)); exact HO325.out) hb)
            have n6_ := Aside0.mk (blk_below (g := gb295) (o := .cells #[.int .i64 t298, .slice Ao33 t299.length co33] 24 (0, 0)) (by (with_reducible repeat (first | refine blk_drewN ?_ _ | refine blk_drew ?_ | refine blk_alloc ?_ _)); exact BK295.out) hb)
            have n7_ := Aside0.mk (blk_below (g := gb296) (o := .cells #[.int .i64 t302, .slice Ao37 t303.length co37] 24 (0, 0)) (by (with_reducible repeat (first | refine blk_drewN ?_ _ | refine blk_drew ?_ | refine blk_alloc ?_ _)); exact BK296.out) hb)
            have n8_ := Aside0.mk (blk_below (g := gb310) (o := .cells #[.int .i64 t306, .slice Ao45 t307.length co45] 27 (0, 0)) (by (with_reducible repeat (first | refine blk_drewN ?_ _ | refine blk_drew ?_ | refine blk_alloc ?_ _)); exact BK310.out) hb)
            have n9_ := Aside0.mk (blk_below (g := gb316) (o := .cells #[.int .i64 t312, .slice Ao54 t313.length co54] 27 (0, 0)) (by (with_reducible repeat (first | refine blk_drewN ?_ _ | refine blk_drew ?_ | refine blk_alloc ?_ _)); exact BK316.out) hb)
            have n10_ := Aside0.mk (blk_below (g := gb321) (o := .cells #[.int .i64 t317, .slice Ao62 t318.length co62] 27 (0, 0)) (by (with_reducible repeat (first | refine blk_drewN ?_ _ | refine blk_drew ?_ | refine blk_alloc ?_ _)); exact BK321.out) hb)
            have n11_ := Aside0.mk (blk_below (g := gb326) (o := .cells #[.int .i64 t322, .slice Ao72 t323.length co72] 27 (0, 0)) (by (with_reducible repeat (first | refine blk_drewN ?_ _ | refine blk_drew ?_ | refine blk_alloc ?_ _)); exact BK326.out) hb)
            have n12_ := Aside0.mk (below_step (by repeat (first | (with_reducible first | exact HB.out | apply below_alloc | apply pw_below_drewN | apply below_drew1 | refine below_set ?_ GE295.out | refine below_set ?_ GE296.out | refine below_set ?_ GE310.out | refine below_set ?_ GE316.out | refine below_set ?_ GE321.out | refine below_set ?_ GE326.out) | exact HB.out)) hb)
            clear HO301
            clear HO305
            clear HO309
            clear HO315
            clear HO320
            clear HO325
            clear BK295
            clear BK296
            clear BK310
            clear BK316
            clear BK321
            clear BK326
            clear HB
            have HO301 := n0_
            have HO305 := n1_
            have HO309 := n2_
            have HO315 := n3_
            have HO320 := n4_
            have HO325 := n5_
            have BK295 := n6_
            have BK296 := n7_
            have BK310 := n8_
            have BK316 := n9_
            have BK321 := n10_
            have BK326 := n11_
            have HB := n12_
            clear n0_ n1_ n2_ n3_ n4_ n5_ n6_ n7_ n8_ n9_ n10_ n11_ n12_
            (try clear hb)
            (try clear hb2)
            (try clear hk)
            (try clear hi)
            refine hK.out _ _ ⟨(blk_cell BK316.out 0).trans rfl, (blk_cell BK316.out 1).trans rfl, (blk_cell BK310.out 0).trans rfl, (blk_cell BK310.out 1).trans rfl, (blk_cell BK321.out 0).trans rfl, (blk_cell BK321.out 1).trans rfl, (blk_cell BK326.out 0).trans rfl, (blk_cell BK326.out 1).trans rfl, (blk_cell BK295.out 0).trans rfl, (blk_cell BK295.out 1).trans rfl, (blk_cell BK296.out 0).trans rfl, (blk_cell BK296.out 1).trans rfl⟩ (fun hHeld => ?_)
            clear hK K
            refine norm_ (a' := ?_) ?_ ?_
            rotate_left
            · show Act.put _ (some 61) _ = _
              simp only [Act.put, List.setIfInBounds_toArray, List.set_cons_zero, List.set_cons_succ, i64_w, i32_w]
              rfl
            refine pure_ (i := 31) (N := some 62) (v := ?_) (a' := ?_) #[true, true, true, true, true, true, true, true, true, true, true, true, true, true, true, true, true, true, true, true, true, true, true, true, true, true, true, true, true, true, true, true, false, false, false, false, false, false, false, false, false, false, false, false, false, false, false, false, false, false] rfl rfl (any_of HT_.out (by kernel_rfl)) (fun _ _ _ h => h) (Or.inl ⟨by rfl, ?_⟩) ?_ ?_
            rotate_left
            · intro w'
              go_simp
              with_reducible rfl
            rotate_left
            · simp only [Act.put, List.setIfInBounds_toArray, List.set_cons_zero, List.set_cons_succ, i64_w, i32_w]
              rfl
            refine pure_ (i := 32) (N := some 63) (v := ?_) (a' := ?_) #[true, true, true, true, true, true, true, true, true, true, true, true, true, true, true, true, true, true, true, true, true, true, true, true, true, true, true, true, true, true, true, true, true, false, false, false, false, false, false, false, false, false, false, false, false, false, false, false, false, false] rfl rfl (any_of HT_.out (by kernel_rfl)) (fun _ _ _ h => h) (Or.inl ⟨by rfl, ?_⟩) ?_ ?_
            rotate_left
            · intro w'
              go_simp
              with_reducible rfl
            rotate_left
            · simp only [Act.put, List.setIfInBounds_toArray, List.set_cons_zero, List.set_cons_succ, i64_w, i32_w]
              rfl
            refine take_ (i := 33) (N := some 64) (v := ?_) (a' := ?_) #[true, true, true, true, true, true, true, true, true, true, true, true, true, true, true, true, true, true, true, true, true, true, true, true, true, true, true, true, true, true, true, true, true, true, false, false, false, false, false, false, false, false, false, false, false, false, false, false, false, false] rfl rfl (take_ofW HT_.out HW_.out (by kernel_rfl)) (fun _ _ _ h => h) (Or.inl ⟨by rfl, ?_⟩) hHeld ?_ ?_
            rotate_left
            · rintro w' ⟨s0, s1, s2, s3, s4, s5, s6, s7, s8, s9, s10, s11⟩
              go_simp
              with_reducible rfl
            rotate_left
            · simp only [Act.put, List.setIfInBounds_toArray, List.set_cons_zero, List.set_cons_succ, i64_w, i32_w]
              rfl
            refine take_ (i := 34) (N := some 65) (v := ?_) (a' := ?_) #[true, true, true, true, true, true, true, true, true, true, true, true, true, true, true, true, true, true, true, true, true, true, true, true, true, true, true, true, true, true, true, true, true, true, true, false, false, false, false, false, false, false, false, false, false, false, false, false, false, false] rfl rfl (take_ofW HT_.out HW_.out (by kernel_rfl)) (fun _ _ _ h => h) (Or.inl ⟨by rfl, ?_⟩) hHeld ?_ ?_
            rotate_left
            · rintro w' ⟨s0, s1, s2, s3, s4, s5, s6, s7, s8, s9, s10, s11⟩
              go_simp
              with_reducible rfl
            rotate_left
            · simp only [Act.put, List.setIfInBounds_toArray, List.set_cons_zero, List.set_cons_succ, i64_w, i32_w]
              rfl
            refine take_ (i := 37) (N := some 68) (v := ?_) (a' := ?_) #[true, true, true, true, true, true, true, true, true, true, true, true, true, true, true, true, true, true, true, true, true, true, true, true, true, true, true, true, true, true, true, true, true, true, true, false, false, true, false, false, false, false, false, false, false, false, false, false, false, false] rfl rfl (take_ofW HT_.out HW_.out (by kernel_rfl)) (fun _ _ _ h => h) (Or.inl ⟨by rfl, ?_⟩) hHeld ?_ ?_
            rotate_left
            · rintro w' ⟨s0, s1, s2, s3, s4, s5, s6, s7, s8, s9, s10, s11⟩
              go_simp
              with_reducible rfl
            rotate_left
            · simp only [Act.put, List.setIfInBounds_toArray, List.set_cons_zero, List.set_cons_succ, i64_w, i32_w]
              rfl
            refine take_ (i := 38) (N := some 69) (v := ?_) (a' := ?_) #[true, true, true, true, true, true, true, true, true, true, true, true, true, true, true, true, true, true, true, true, true, true, true, true, true, true, true, true, true, true, true, true, true, true, true, false, false, true, true, false, false, false, false, false, false, false, false, false, false, false] rfl rfl (take_ofW HT_.out HW_.out (by kernel_rfl)) (fun _ _ _ h => h) (Or.inl ⟨by rfl, ?_⟩) hHeld ?_ ?_
            rotate_left
            · rintro w' ⟨s0, s1, s2, s3, s4, s5, s6, s7, s8, s9, s10, s11⟩
              go_simp
              with_reducible rfl
            rotate_left
            · simp only [Act.put, List.setIfInBounds_toArray, List.set_cons_zero, List.set_cons_succ, i64_w, i32_w]
              rfl
            refine one_ (i := 35) (N := some 66) #[true, true, true, true, true, true, true, true, true, true, true, true, true, true, true, true, true, true, true, true, true, true, true, true, true, true, true, true, true, true, true, true, true, true, true, true, false, true, true, false, false, false, false, false, false, false, false, false, false, false] rfl rfl (one_of HT_.out (by kernel_rfl)) (by decide) (fun K hK => ?_)
            refine goes_ Try.func11 (by kernel_rfl) rfl #[.agg #[.int .i64 t302, .slice Ao37 t303.length co37]] (by rfl) rfl rfl (by (try simp only [List.map_toArray, List.map_cons, List.map_nil]); first | done | rfl | (simp only [List.length_drop, List.length_take]; rfl)) ?_
            with_reducible refine (clavierlaw08_made.calls t302 (fun k_ => some k_ = (.slice Ao37 t303.length co37 : Value).ownBlock) _ _ t303 t330 t331 _ ?side1 A19.out).mono ?_
            (case side1 => exact Kd.R_V (Kd.R_tight rfl (Kd.R_types (Kd.R_types (Kd.R_types (Kd.R_types (Kd.R_types (Kd.R_types (HO305.out) BK295.out (by decide)) BK296.out (by decide)) BK310.out (by decide)) BK316.out (by decide)) BK321.out (by decide)) BK326.out (by decide))))
            rintro e w76 ⟨v332, rfl, ho0, hb⟩
            refine ⟨_, rfl, ?_⟩
            have n0_ := Aside0.mk (Kd.R_below (by (with_reducible repeat (first | apply Kd.R_alloc | apply Kd.R_drewN | apply Kd.R_drew)); exact HO301.out) hb)
            have n1_ := Aside0.mk (Kd.R_below (by (with_reducible repeat (first | apply Kd.R_alloc | apply Kd.R_drewN | apply Kd.R_drew)); exact HO305.out) hb)
            have n2_ := Aside0.mk (Kd.V_below (by (with_reducible repeat (first | apply Kd.V_alloc | apply Kd.V_drewN | apply Kd.V_drew)); exact HO309.out) hb)
            have n3_ := Aside0.mk (Kd.R_below (by (with_reducible repeat (first | apply Kd.R_alloc | apply Kd.R_drewN | apply Kd.R_drew)); exact HO315.out) hb)
            have n4_ := Aside0.mk (Kd.R_below (by (with_reducible repeat (first | apply Kd.R_alloc | apply Kd.R_drewN | apply Kd.R_drew)); exact HO320.out) hb)
            have n5_ := Aside0.mk (Kd.R_below (by (with_reducible repeat (first | apply Kd.R_alloc | apply Kd.R_drewN | apply Kd.R_drew)); exact HO325.out) hb)
            have n6_ := Aside0.mk (Kd.V_lower (Kd.V_mono (ok' := fun k_ => some k_ ≠ (.slice Ao33 t299.length co33 : Value).ownBlock ∧ some k_ ≠ (.slice Ao54 t313.length co54 : Value).ownBlock ∧ some k_ ≠ (.slice Ao62 t318.length co62 : Value).ownBlock ∧ some k_ ≠ (.slice Ao72 t323.length co72 : Value).ownBlock ∧ k_ ≠ gb295 ∧ k_ ≠ gb296 ∧ k_ ≠ gb310 ∧ k_ ≠ gb316 ∧ k_ ≠ gb321 ∧ k_ ≠ gb326) ho0 (fun k_ hk_ => ⟨Or.elim hk_ (fun hs_ => ((Kd.R_types (Kd.R_types (Kd.R_types (Kd.R_types (Kd.R_types (Kd.R_types (HO305.out) BK295.out (by decide)) BK296.out (by decide)) BK310.out (by decide)) BK316.out (by decide)) BK321.out (by decide)) BK326.out (by decide)).1 k_ hs_.symm).1.1.1.1.1.1.1) (fun hn_ => (Kd.fresh' (Kd.R_lt (by (with_reducible repeat (first | apply Kd.R_alloc | apply Kd.R_drewN | apply Kd.R_drew)); exact HO301.out)) k_ hn_)), Or.elim hk_ (fun hs_ => ((Kd.R_types (Kd.R_types (Kd.R_types (Kd.R_types (Kd.R_types (Kd.R_types (HO305.out) BK295.out (by decide)) BK296.out (by decide)) BK310.out (by decide)) BK316.out (by decide)) BK321.out (by decide)) BK326.out (by decide)).1 k_ hs_.symm).1.1.1.1.1.1.2.1) (fun hn_ => (Kd.fresh' (Kd.R_lt (by (with_reducible repeat (first | apply Kd.R_alloc | apply Kd.R_drewN | apply Kd.R_drew)); exact HO315.out)) k_ hn_)), Or.elim hk_ (fun hs_ => ((Kd.R_types (Kd.R_types (Kd.R_types (Kd.R_types (Kd.R_types (Kd.R_types (HO305.out) BK295.out (by decide)) BK296.out (by decide)) BK310.out (by decide)) BK316.out (by decide)) BK321.out (by decide)) BK326.out (by decide)).1 k_ hs_.symm).1.1.1.1.1.1.2.2.1) (fun hn_ => (Kd.fresh' (Kd.R_lt (by (with_reducible repeat (first | apply Kd.R_alloc | apply Kd.R_drewN | apply Kd.R_drew)); exact HO320.out)) k_ hn_)), Or.elim hk_ (fun hs_ => ((Kd.R_types (Kd.R_types (Kd.R_types (Kd.R_types (Kd.R_types (Kd.R_types (HO305.out) BK295.out (by decide)) BK296.out (by decide)) BK310.out (by decide)) BK316.out (by decide)) BK321.out (by decide)) BK326.out (by decide)).1 k_ hs_.symm).1.1.1.1.1.1.2.2.2) (fun hn_ => (Kd.fresh' (Kd.R_lt (by (with_reducible repeat (first | apply Kd.R_alloc | apply Kd.R_drewN | apply Kd.R_drew)); exact HO325.out)) k_ hn_)), Or.elim hk_ (fun hs_ => ((Kd.R_types (Kd.R_types (Kd.R_types (Kd.R_types (Kd.R_types (Kd.R_types (HO305.out) BK295.out (by decide)) BK296.out (by decide)) BK310.out (by decide)) BK316.out (by decide)) BK321.out (by decide)) BK326.out (by decide)).1 k_ hs_.symm).1.1.1.1.1.2) (fun hn_ => (Kd.freshB (g := gb295) (o := .cells #[.int .i64 t298, .slice Ao33 t299.length co33] 24 (0, 0)) (by (with_reducible repeat (first | refine blk_drewN ?_ _ | refine blk_drew ?_ | refine blk_alloc ?_ _)); exact BK295.out) k_ hn_)), Or.elim hk_ (fun hs_ => ((Kd.R_types (Kd.R_types (Kd.R_types (Kd.R_types (Kd.R_types (Kd.R_types (HO305.out) BK295.out (by decide)) BK296.out (by decide)) BK310.out (by decide)) BK316.out (by decide)) BK321.out (by decide)) BK326.out (by decide)).1 k_ hs_.symm).1.1.1.1.2) (fun hn_ => (Kd.freshB (g := gb296) (o := .cells #[.int .i64 t302, .slice Ao37 t303.length co37] 24 (0, 0)) (by (with_reducible repeat (first | refine blk_drewN ?_ _ | refine blk_drew ?_ | refine blk_alloc ?_ _)); exact BK296.out) k_ hn_)), Or.elim hk_ (fun hs_ => ((Kd.R_types (Kd.R_types (Kd.R_types (Kd.R_types (Kd.R_types (Kd.R_types (HO305.out) BK295.out (by decide)) BK296.out (by decide)) BK310.out (by decide)) BK316.out (by decide)) BK321.out (by decide)) BK326.out (by decide)).1 k_ hs_.symm).1.1.1.2) (fun hn_ => (Kd.freshB (g := gb310) (o := .cells #[.int .i64 t306, .slice Ao45 t307.length co45] 27 (0, 0)) (by (with_reducible repeat (first | refine blk_drewN ?_ _ | refine blk_drew ?_ | refine blk_alloc ?_ _)); exact BK310.out) k_ hn_)), Or.elim hk_ (fun hs_ => ((Kd.R_types (Kd.R_types (Kd.R_types (Kd.R_types (Kd.R_types (Kd.R_types (HO305.out) BK295.out (by decide)) BK296.out (by decide)) BK310.out (by decide)) BK316.out (by decide)) BK321.out (by decide)) BK326.out (by decide)).1 k_ hs_.symm).1.1.2) (fun hn_ => (Kd.freshB (g := gb316) (o := .cells #[.int .i64 t312, .slice Ao54 t313.length co54] 27 (0, 0)) (by (with_reducible repeat (first | refine blk_drewN ?_ _ | refine blk_drew ?_ | refine blk_alloc ?_ _)); exact BK316.out) k_ hn_)), Or.elim hk_ (fun hs_ => ((Kd.R_types (Kd.R_types (Kd.R_types (Kd.R_types (Kd.R_types (Kd.R_types (HO305.out) BK295.out (by decide)) BK296.out (by decide)) BK310.out (by decide)) BK316.out (by decide)) BK321.out (by decide)) BK326.out (by decide)).1 k_ hs_.symm).1.2) (fun hn_ => (Kd.freshB (g := gb321) (o := .cells #[.int .i64 t317, .slice Ao62 t318.length co62] 27 (0, 0)) (by (with_reducible repeat (first | refine blk_drewN ?_ _ | refine blk_drew ?_ | refine blk_alloc ?_ _)); exact BK321.out) k_ hn_)), Or.elim hk_ (fun hs_ => ((Kd.R_types (Kd.R_types (Kd.R_types (Kd.R_types (Kd.R_types (Kd.R_types (HO305.out) BK295.out (by decide)) BK296.out (by decide)) BK310.out (by decide)) BK316.out (by decide)) BK321.out (by decide)) BK326.out (by decide)).1 k_ hs_.symm).2) (fun hn_ => (Kd.freshB (g := gb326) (o := .cells #[.int .i64 t322, .slice Ao72 t323.length co72] 27 (0, 0)) (by (with_reducible repeat (first | refine blk_drewN ?_ _ | refine blk_drew ?_ | refine blk_alloc ?_ _)); exact BK326.out) k_ hn_))⟩)) (below_size (by repeat (first | (with_reducible first | exact HB.out | apply below_alloc | apply pw_below_drewN | apply below_drew1 | refine below_set ?_ GE295.out | refine below_set ?_ GE296.out | refine below_set ?_ GE310.out | refine below_set ?_ GE316.out | refine below_set ?_ GE321.out | refine below_set ?_ GE326.out) | exact HB.out))))
            have n7_ := Aside0.mk (blk_below (g := gb295) (o := .cells #[.int .i64 t298, .slice Ao33 t299.length co33] 24 (0, 0)) (by (with_reducible repeat (first | refine blk_drewN ?_ _ | refine blk_drew ?_ | refine blk_alloc ?_ _)); exact BK295.out) hb)
            have n8_ := Aside0.mk (blk_below (g := gb296) (o := .cells #[.int .i64 t302, .slice Ao37 t303.length co37] 24 (0, 0)) (by (with_reducible repeat (first | refine blk_drewN ?_ _ | refine blk_drew ?_ | refine blk_alloc ?_ _)); exact BK296.out) hb)
            have n9_ := Aside0.mk (blk_below (g := gb310) (o := .cells #[.int .i64 t306, .slice Ao45 t307.length co45] 27 (0, 0)) (by (with_reducible repeat (first | refine blk_drewN ?_ _ | refine blk_drew ?_ | refine blk_alloc ?_ _)); exact BK310.out) hb)
            have n10_ := Aside0.mk (blk_below (g := gb316) (o := .cells #[.int .i64 t312, .slice Ao54 t313.length co54] 27 (0, 0)) (by (with_reducible repeat (first | refine blk_drewN ?_ _ | refine blk_drew ?_ | refine blk_alloc ?_ _)); exact BK316.out) hb)
            have n11_ := Aside0.mk (blk_below (g := gb321) (o := .cells #[.int .i64 t317, .slice Ao62 t318.length co62] 27 (0, 0)) (by (with_reducible repeat (first | refine blk_drewN ?_ _ | refine blk_drew ?_ | refine blk_alloc ?_ _)); exact BK321.out) hb)
            have n12_ := Aside0.mk (blk_below (g := gb326) (o := .cells #[.int .i64 t322, .slice Ao72 t323.length co72] 27 (0, 0)) (by (with_reducible repeat (first | refine blk_drewN ?_ _ | refine blk_drew ?_ | refine blk_alloc ?_ _)); exact BK326.out) hb)
            have n13_ := Aside0.mk (below_step (by repeat (first | (with_reducible first | exact HB.out | apply below_alloc | apply pw_below_drewN | apply below_drew1 | refine below_set ?_ GE295.out | refine below_set ?_ GE296.out | refine below_set ?_ GE310.out | refine below_set ?_ GE316.out | refine below_set ?_ GE321.out | refine below_set ?_ GE326.out) | exact HB.out)) hb)
            clear HO301
            clear HO305
            clear HO309
            clear HO315
            clear HO320
            clear HO325
            clear BK295
            clear BK296
            clear BK310
            clear BK316
            clear BK321
            clear BK326
            clear HB
            have HO301 := n0_
            have HO305 := n1_
            have HO309 := n2_
            have HO315 := n3_
            have HO320 := n4_
            have HO325 := n5_
            have HO333 := n6_
            have BK295 := n7_
            have BK296 := n8_
            have BK310 := n9_
            have BK316 := n10_
            have BK321 := n11_
            have BK326 := n12_
            have HB := n13_
            clear n0_ n1_ n2_ n3_ n4_ n5_ n6_ n7_ n8_ n9_ n10_ n11_ n12_ n13_
            (try clear hb)
            (try clear hb2)
            (try clear hk)
            (try clear hi)
            (try clear ho0)
            obtain ⟨Ao77, co77, eo77⟩ := Kd.V_slice HO333.out
            (first | subst eo77 | (injection eo77 with f1_ f2_ f3_; have f4_ := f1_.symm; have f5_ := f3_.symm; clear f1_ f2_ f3_; subst f4_; subst f5_))
            refine hK.out _ _ ⟨(blk_cell BK316.out 0).trans rfl, (blk_cell BK316.out 1).trans rfl, (blk_cell BK310.out 0).trans rfl, (blk_cell BK310.out 1).trans rfl, (blk_cell BK321.out 0).trans rfl, (blk_cell BK321.out 1).trans rfl, (blk_cell BK326.out 0).trans rfl, (blk_cell BK326.out 1).trans rfl, (blk_cell BK295.out 0).trans rfl, (blk_cell BK295.out 1).trans rfl, (blk_cell BK296.out 0).trans rfl, (blk_cell BK296.out 1).trans rfl⟩ (fun hHeld => ?_)
            clear hK K
            refine norm_ (a' := ?_) ?_ ?_
            rotate_left
            · show Act.put _ (some 66) _ = _
              simp only [Act.put, List.setIfInBounds_toArray, List.set_cons_zero, List.set_cons_succ, i64_w, i32_w]
              rfl
            refine one_ (i := 36) (N := some 67) #[true, true, true, true, true, true, true, true, true, true, true, true, true, true, true, true, true, true, true, true, true, true, true, true, true, true, true, true, true, true, true, true, true, true, true, true, true, true, true, false, false, false, false, false, false, false, false, false, false, false] rfl rfl (one_of HT_.out (by kernel_rfl)) (by decide) (fun K hK => ?_)
            refine goes_ Try.func20 (by kernel_rfl) rfl #[.agg #[.int .i64 t306, .slice Ao45 t307.length co45], .agg #[.int .i64 t330, .slice Ao77 t331.length co77]] (by rfl) rfl rfl (by (try simp only [List.map_toArray, List.map_cons, List.map_nil]); first | done | rfl | (simp only [List.length_drop, List.length_take]; rfl)) ?_
            with_reducible refine (stack_Same.calls k t306 _ _ t307 t330 _ _ t331 t334 _ ?side1 ?side2 ?side3 ?side4 A20.out).mono ?_
            (case side1 => repeat (first | exact (Kd.V_reads' HO309.out).2.2 | (with_reducible refine Kd.C_alloc ?_ _) | (with_reducible refine Kd.C_drewN ?_ _) | (with_reducible refine Kd.C_drew ?_)))
            (case side2 => exact (Kd.V_reads' HO309.out).2.1)
            (case side3 => repeat (first | exact (Kd.V_reads' HO333.out).2.2 | (with_reducible refine Kd.C_alloc ?_ _) | (with_reducible refine Kd.C_drewN ?_ _) | (with_reducible refine Kd.C_drew ?_)))
            (case side4 => exact (Kd.V_reads' HO333.out).2.1)
            rintro e w78 ⟨rfl, hb⟩
            refine ⟨_, rfl, ?_⟩
            have n0_ := Aside0.mk (Kd.R_below (by (with_reducible repeat (first | apply Kd.R_alloc | apply Kd.R_drewN | apply Kd.R_drew)); exact HO301.out) hb)
            have n1_ := Aside0.mk (Kd.R_below (by (with_reducible repeat (first | apply Kd.R_alloc | apply Kd.R_drewN | apply Kd.R_drew)); exact HO305.out) hb)
            have n2_ := Aside0.mk (Kd.V_below (by (with_reducible repeat (first | apply Kd.V_alloc | apply Kd.V_drewN | apply Kd.V_drew)); exact HO309.out) hb)
            have n3_ := Aside0.mk (Kd.R_below (by (with_reducible repeat (first | apply Kd.R_alloc | apply Kd.R_drewN | apply Kd.R_drew)); exact HO315.out) hb)
            have n4_ := Aside0.mk (Kd.R_below (by (with_reducible repeat (first | apply Kd.R_alloc | apply Kd.R_drewN | apply Kd.R_drew)); exact HO320.out) hb)
            have n5_ := Aside0.mk (Kd.R_below (by (with_reducible repeat (first | apply Kd.R_alloc | apply Kd.R_drewN | apply Kd.R_drew)); exact HO325.out) hb)
            have n6_ := Aside0.mk (Kd.V_below (by (with_reducible repeat (first | apply Kd.V_alloc | apply Kd.V_drewN | apply Kd.V_drew)); exact HO333.out) hb)
            have n7_ := Aside0.mk (blk_below (g := gb295) (o := .cells #[.int .i64 t298, .slice Ao33 t299.length co33] 24 (0, 0)) (by (with_reducible repeat (first | refine blk_drewN ?_ _ | refine blk_drew ?_ | refine blk_alloc ?_ _)); exact BK295.out) hb)
            have n8_ := Aside0.mk (blk_below (g := gb296) (o := .cells #[.int .i64 t302, .slice Ao37 t303.length co37] 24 (0, 0)) (by (with_reducible repeat (first | refine blk_drewN ?_ _ | refine blk_drew ?_ | refine blk_alloc ?_ _)); exact BK296.out) hb)
            have n9_ := Aside0.mk (blk_below (g := gb310) (o := .cells #[.int .i64 t306, .slice Ao45 t307.length co45] 27 (0, 0)) (by (with_reducible repeat (first | refine blk_drewN ?_ _ | refine blk_drew ?_ | refine blk_alloc ?_ _)); exact BK310.out) hb)
            have n10_ := Aside0.mk (blk_below (g := gb316) (o := .cells #[.int .i64 t312, .slice Ao54 t313.length co54] 27 (0, 0)) (by (with_reducible repeat (first | refine blk_drewN ?_ _ | refine blk_drew ?_ | refine blk_alloc ?_ _)); exact BK316.out) hb)
            have n11_ := Aside0.mk (blk_below (g := gb321) (o := .cells #[.int .i64 t317, .slice Ao62 t318.length co62] 27 (0, 0)) (by (with_reducible repeat (first | refine blk_drewN ?_ _ | refine blk_drew ?_ | refine blk_alloc ?_ _)); exact BK321.out) hb)
            have n12_ := Aside0.mk (blk_below (g := gb326) (o := .cells #[.int .i64 t322, .slice Ao72 t323.length co72] 27 (0, 0)) (by (with_reducible repeat (first | refine blk_drewN ?_ _ | refine blk_drew ?_ | refine blk_alloc ?_ _)); exact BK326.out) hb)
            have n13_ := Aside0.mk (below_step (by repeat (first | (with_reducible first | exact HB.out | apply below_alloc | apply pw_below_drewN | apply below_drew1 | refine below_set ?_ GE295.out | refine below_set ?_ GE296.out | refine below_set ?_ GE310.out | refine below_set ?_ GE316.out | refine below_set ?_ GE321.out | refine below_set ?_ GE326.out) | exact HB.out)) hb)
            clear HO301
            clear HO305
            clear HO309
            clear HO315
            clear HO320
            clear HO325
            clear HO333
            clear BK295
            clear BK296
            clear BK310
            clear BK316
            clear BK321
            clear BK326
            clear HB
            have HO301 := n0_
            have HO305 := n1_
            have HO309 := n2_
            have HO315 := n3_
            have HO320 := n4_
            have HO325 := n5_
            have HO333 := n6_
            have BK295 := n7_
            have BK296 := n8_
            have BK310 := n9_
            have BK316 := n10_
            have BK321 := n11_
            have BK326 := n12_
            have HB := n13_
            clear n0_ n1_ n2_ n3_ n4_ n5_ n6_ n7_ n8_ n9_ n10_ n11_ n12_ n13_
            (try clear hb)
            (try clear hb2)
            (try clear hk)
            (try clear hi)
            refine hK.out _ _ ⟨(blk_cell BK316.out 0).trans rfl, (blk_cell BK316.out 1).trans rfl, (blk_cell BK310.out 0).trans rfl, (blk_cell BK310.out 1).trans rfl, (blk_cell BK321.out 0).trans rfl, (blk_cell BK321.out 1).trans rfl, (blk_cell BK326.out 0).trans rfl, (blk_cell BK326.out 1).trans rfl, (blk_cell BK295.out 0).trans rfl, (blk_cell BK295.out 1).trans rfl, (blk_cell BK296.out 0).trans rfl, (blk_cell BK296.out 1).trans rfl⟩ (fun hHeld => ?_)
            clear hK K
            refine norm_ (a' := ?_) ?_ ?_
            rotate_left
            · show Act.put _ (some 67) _ = _
              simp only [Act.put, List.setIfInBounds_toArray, List.set_cons_zero, List.set_cons_succ, i64_w, i32_w]
              rfl
            refine one_ (i := 39) (N := some 70) #[true, true, true, true, true, true, true, true, true, true, true, true, true, true, true, true, true, true, true, true, true, true, true, true, true, true, true, true, true, true, true, true, true, true, true, true, true, true, true, true, false, false, false, false, false, false, false, false, false, false] rfl rfl (one_of HT_.out (by kernel_rfl)) (by decide) (fun K hK => ?_)
            refine goes_ Try.func22 (by kernel_rfl) rfl #[.agg #[.int .i64 t298, .slice Ao33 t299.length co33], .agg #[.int .i64 t302, .slice Ao37 t303.length co37]] (by rfl) rfl rfl (by (try simp only [List.map_toArray, List.map_cons, List.map_nil]); first | done | rfl | (simp only [List.length_drop, List.length_take]; rfl)) ?_
            with_reducible refine (clavierref08_Same.calls k t298 _ _ t299 t302 _ _ t303 t335 _ ?side1 ?side2 ?side3 ?side4 A21.out).mono ?_
            (case side1 => repeat (first | exact (Kd.R_reads' HO301.out).2.2 | (with_reducible refine Kd.C_alloc ?_ _) | (with_reducible refine Kd.C_drewN ?_ _) | (with_reducible refine Kd.C_drew ?_)))
            (case side2 => exact (Kd.R_reads' HO301.out).2.1)
            (case side3 => repeat (first | exact (Kd.R_reads' HO305.out).2.2 | (with_reducible refine Kd.C_alloc ?_ _) | (with_reducible refine Kd.C_drewN ?_ _) | (with_reducible refine Kd.C_drew ?_)))
            (case side4 => exact (Kd.R_reads' HO305.out).2.1)
            rintro e w79 ⟨rfl, hb⟩
            refine ⟨_, rfl, ?_⟩
            have n0_ := Aside0.mk (Kd.R_below (by (with_reducible repeat (first | apply Kd.R_alloc | apply Kd.R_drewN | apply Kd.R_drew)); exact HO301.out) hb)
            have n1_ := Aside0.mk (Kd.R_below (by (with_reducible repeat (first | apply Kd.R_alloc | apply Kd.R_drewN | apply Kd.R_drew)); exact HO305.out) hb)
            have n2_ := Aside0.mk (Kd.V_below (by (with_reducible repeat (first | apply Kd.V_alloc | apply Kd.V_drewN | apply Kd.V_drew)); exact HO309.out) hb)
            have n3_ := Aside0.mk (Kd.R_below (by (with_reducible repeat (first | apply Kd.R_alloc | apply Kd.R_drewN | apply Kd.R_drew)); exact HO315.out) hb)
            have n4_ := Aside0.mk (Kd.R_below (by (with_reducible repeat (first | apply Kd.R_alloc | apply Kd.R_drewN | apply Kd.R_drew)); exact HO320.out) hb)
            have n5_ := Aside0.mk (Kd.R_below (by (with_reducible repeat (first | apply Kd.R_alloc | apply Kd.R_drewN | apply Kd.R_drew)); exact HO325.out) hb)
            have n6_ := Aside0.mk (Kd.V_below (by (with_reducible repeat (first | apply Kd.V_alloc | apply Kd.V_drewN | apply Kd.V_drew)); exact HO333.out) hb)
            have n7_ := Aside0.mk (blk_below (g := gb295) (o := .cells #[.int .i64 t298, .slice Ao33 t299.length co33] 24 (0, 0)) (by (with_reducible repeat (first | refine blk_drewN ?_ _ | refine blk_drew ?_ | refine blk_alloc ?_ _)); exact BK295.out) hb)
            have n8_ := Aside0.mk (blk_below (g := gb296) (o := .cells #[.int .i64 t302, .slice Ao37 t303.length co37] 24 (0, 0)) (by (with_reducible repeat (first | refine blk_drewN ?_ _ | refine blk_drew ?_ | refine blk_alloc ?_ _)); exact BK296.out) hb)
            have n9_ := Aside0.mk (blk_below (g := gb310) (o := .cells #[.int .i64 t306, .slice Ao45 t307.length co45] 27 (0, 0)) (by (with_reducible repeat (first | refine blk_drewN ?_ _ | refine blk_drew ?_ | refine blk_alloc ?_ _)); exact BK310.out) hb)
            have n10_ := Aside0.mk (blk_below (g := gb316) (o := .cells #[.int .i64 t312, .slice Ao54 t313.length co54] 27 (0, 0)) (by (with_reducible repeat (first | refine blk_drewN ?_ _ | refine blk_drew ?_ | refine blk_alloc ?_ _)); exact BK316.out) hb)
            have n11_ := Aside0.mk (blk_below (g := gb321) (o := .cells #[.int .i64 t317, .slice Ao62 t318.length co62] 27 (0, 0)) (by (with_reducible repeat (first | refine blk_drewN ?_ _ | refine blk_drew ?_ | refine blk_alloc ?_ _)); exact BK321.out) hb)
            have n12_ := Aside0.mk (blk_below (g := gb326) (o := .cells #[.int .i64 t322, .slice Ao72 t323.length co72] 27 (0, 0)) (by (with_reducible repeat (first | refine blk_drewN ?_ _ | refine blk_drew ?_ | refine blk_alloc ?_ _)); exact BK326.out) hb)
            have n13_ := Aside0.mk (below_step (by repeat (first | (with_reducible first | exact HB.out | apply below_alloc | apply pw_below_drewN | apply below_drew1 | refine below_set ?_ GE295.out | refine below_set ?_ GE296.out | refine below_set ?_ GE310.out | refine below_set ?_ GE316.out | refine below_set ?_ GE321.out | refine below_set ?_ GE326.out) | exact HB.out)) hb)
            clear HO301
            clear HO305
            clear HO309
            clear HO315
            clear HO320
            clear HO325
            clear HO333
            clear BK295
            clear BK296
            clear BK310
            clear BK316
            clear BK321
            clear BK326
            clear HB
            have HO301 := n0_
            have HO305 := n1_
            have HO309 := n2_
            have HO315 := n3_
            have HO320 := n4_
            have HO325 := n5_
            have HO333 := n6_
            have BK295 := n7_
            have BK296 := n8_
            have BK310 := n9_
            have BK316 := n10_
            have BK321 := n11_
            have BK326 := n12_
            have HB := n13_
            clear n0_ n1_ n2_ n3_ n4_ n5_ n6_ n7_ n8_ n9_ n10_ n11_ n12_ n13_
            (try clear hb)
            (try clear hb2)
            (try clear hk)
            (try clear hi)
            refine hK.out _ _ ⟨(blk_cell BK316.out 0).trans rfl, (blk_cell BK316.out 1).trans rfl, (blk_cell BK310.out 0).trans rfl, (blk_cell BK310.out 1).trans rfl, (blk_cell BK321.out 0).trans rfl, (blk_cell BK321.out 1).trans rfl, (blk_cell BK326.out 0).trans rfl, (blk_cell BK326.out 1).trans rfl, (blk_cell BK295.out 0).trans rfl, (blk_cell BK295.out 1).trans rfl, (blk_cell BK296.out 0).trans rfl, (blk_cell BK296.out 1).trans rfl⟩ (fun hHeld => ?_)
            clear hK K
            refine norm_ (a' := ?_) ?_ ?_
            rotate_left
            · show Act.put _ (some 70) _ = _
              simp only [Act.put, List.setIfInBounds_toArray, List.set_cons_zero, List.set_cons_succ, i64_w, i32_w]
              rfl
            refine pure_ (i := 40) (N := some 71) (v := ?_) (a' := ?_) #[true, true, true, true, true, true, true, true, true, true, true, true, true, true, true, true, true, true, true, true, true, true, true, true, true, true, true, true, true, true, true, true, true, true, true, true, true, true, true, true, true, false, false, false, false, false, false, false, false, false] rfl rfl (any_of HT_.out (by kernel_rfl)) (fun _ _ _ h => h) (Or.inl ⟨by rfl, ?_⟩) ?_ ?_
            rotate_left
            · intro w'
              go_simp
              with_reducible rfl
            rotate_left
            · simp only [Act.put, List.setIfInBounds_toArray, List.set_cons_zero, List.set_cons_succ, i64_w, i32_w]
              rfl
            refine pure_ (i := 41) (N := some 72) (v := ?_) (a' := ?_) #[true, true, true, true, true, true, true, true, true, true, true, true, true, true, true, true, true, true, true, true, true, true, true, true, true, true, true, true, true, true, true, true, true, true, true, true, true, true, true, true, true, true, false, false, false, false, false, false, false, false] rfl rfl (any_of HT_.out (by kernel_rfl)) (fun _ _ _ h => h) (Or.inl ⟨by rfl, ?_⟩) ?_ ?_
            rotate_left
            · intro w'
              go_simp
              with_reducible rfl
            rotate_left
            · simp only [Act.put, List.setIfInBounds_toArray, List.set_cons_zero, List.set_cons_succ, i64_w, i32_w]
              rfl
            refine pure_ (i := 42) (N := some 73) (v := ?_) (a' := ?_) #[true, true, true, true, true, true, true, true, true, true, true, true, true, true, true, true, true, true, true, true, true, true, true, true, true, true, true, true, true, true, true, true, true, true, true, true, true, true, true, true, true, true, true, false, false, false, false, false, false, false] rfl rfl (any_of HT_.out (by kernel_rfl)) (fun _ _ _ h => h) (Or.inl ⟨by rfl, ?_⟩) ?_ ?_
            rotate_left
            · intro w'
              go_simp
              with_reducible rfl
            rotate_left
            · simp only [Act.put, List.setIfInBounds_toArray, List.set_cons_zero, List.set_cons_succ, i64_w, i32_w]
              rfl
            refine take_ (i := 43) (N := some 74) (v := ?_) (a' := ?_) #[true, true, true, true, true, true, true, true, true, true, true, true, true, true, true, true, true, true, true, true, true, true, true, true, true, true, true, true, true, true, true, true, true, true, true, true, true, true, true, true, true, true, true, true, false, false, false, false, false, false] rfl rfl (take_ofW HT_.out HW_.out (by kernel_rfl)) (fun _ _ _ h => h) (Or.inl ⟨by rfl, ?_⟩) hHeld ?_ ?_
            rotate_left
            · rintro w' ⟨s0, s1, s2, s3, s4, s5, s6, s7, s8, s9, s10, s11⟩
              go_simp
              with_reducible rfl
            rotate_left
            · simp only [Act.put, List.setIfInBounds_toArray, List.set_cons_zero, List.set_cons_succ, i64_w, i32_w]
              rfl
            refine take_ (i := 45) (N := some 76) (v := ?_) (a' := ?_) #[true, true, true, true, true, true, true, true, true, true, true, true, true, true, true, true, true, true, true, true, true, true, true, true, true, true, true, true, true, true, true, true, true, true, true, true, true, true, true, true, true, true, true, true, false, true, false, false, false, false] rfl rfl (take_ofW HT_.out HW_.out (by kernel_rfl)) (fun _ _ _ h => h) (Or.inl ⟨by rfl, ?_⟩) hHeld ?_ ?_
            rotate_left
            · rintro w' ⟨s0, s1, s2, s3, s4, s5, s6, s7, s8, s9, s10, s11⟩
              go_simp
              with_reducible rfl
            rotate_left
            · simp only [Act.put, List.setIfInBounds_toArray, List.set_cons_zero, List.set_cons_succ, i64_w, i32_w]
              rfl
            refine one_ (i := 44) (N := some 75) #[true, true, true, true, true, true, true, true, true, true, true, true, true, true, true, true, true, true, true, true, true, true, true, true, true, true, true, true, true, true, true, true, true, true, true, true, true, true, true, true, true, true, true, true, true, true, false, false, false, false] rfl rfl (one_of HT_.out (by kernel_rfl)) (by decide) (fun K hK => ?_)
            refine goes_ Try.func17 (by kernel_rfl) rfl #[.agg #[.int .i64 t312, .slice Ao54 t313.length co54], .int .i64 0, .int .i64 1] (by rfl) rfl rfl (by (try simp only [List.map_toArray, List.map_cons, List.map_nil]); first | done | rfl | (simp only [List.length_drop, List.length_take]; rfl)) ?_
            with_reducible refine (stack_Put.calls t312 _ _ t313 0 1 t336 t337 _ ?side1 ?side2 A23.out).mono ?_
            (case side1 => repeat (first | exact (Kd.R_reads' HO315.out).2.2 | (with_reducible refine Kd.C_alloc ?_ _) | (with_reducible refine Kd.C_drewN ?_ _) | (with_reducible refine Kd.C_drew ?_)))
            (case side2 => exact (Kd.R_reads' HO315.out).2.1)
            rintro e w80 ⟨v338, rfl, ho0, hb⟩
            refine ⟨_, rfl, ?_⟩
            have n0_ := Aside0.mk (Kd.R_elder' (by (with_reducible repeat (first | apply Kd.R_alloc | apply Kd.R_drewN | apply Kd.R_drew)); exact HO301.out) (Kd.R_base ho0) hb)
            have n1_ := Aside0.mk (Kd.R_elder' (by (with_reducible repeat (first | apply Kd.R_alloc | apply Kd.R_drewN | apply Kd.R_drew)); exact HO305.out) (Kd.R_base ho0) hb)
            have n2_ := Aside0.mk (Kd.V_elder' (by (with_reducible repeat (first | apply Kd.V_alloc | apply Kd.V_drewN | apply Kd.V_drew)); exact HO309.out) (Kd.R_base ho0) hb)
            have n3_ := Aside0.mk (Kd.R_elder' (by (with_reducible repeat (first | apply Kd.R_alloc | apply Kd.R_drewN | apply Kd.R_drew)); exact HO315.out) (Kd.R_base ho0) hb)
            have n4_ := Aside0.mk (Kd.R_elder' (by (with_reducible repeat (first | apply Kd.R_alloc | apply Kd.R_drewN | apply Kd.R_drew)); exact HO320.out) (Kd.R_base ho0) hb)
            have n5_ := Aside0.mk (Kd.R_elder' (by (with_reducible repeat (first | apply Kd.R_alloc | apply Kd.R_drewN | apply Kd.R_drew)); exact HO325.out) (Kd.R_base ho0) hb)
            have n6_ := Aside0.mk (Kd.V_elder' (by (with_reducible repeat (first | apply Kd.V_alloc | apply Kd.V_drewN | apply Kd.V_drew)); exact HO333.out) (Kd.R_base ho0) hb)
            have n7_ := Aside0.mk (Kd.R_lower (Kd.R_new' (Kd.R_new' (Kd.R_new' (Kd.R_new' (Kd.R_new' ho0 (Kd.R_lt (by (with_reducible repeat (first | apply Kd.R_alloc | apply Kd.R_drewN | apply Kd.R_drew)); exact HO301.out))) (Kd.R_lt (by (with_reducible repeat (first | apply Kd.R_alloc | apply Kd.R_drewN | apply Kd.R_drew)); exact HO305.out))) (Kd.R_lt (by (with_reducible repeat (first | apply Kd.R_alloc | apply Kd.R_drewN | apply Kd.R_drew)); exact HO315.out))) (Kd.R_lt (by (with_reducible repeat (first | apply Kd.R_alloc | apply Kd.R_drewN | apply Kd.R_drew)); exact HO320.out))) (Kd.R_lt (by (with_reducible repeat (first | apply Kd.R_alloc | apply Kd.R_drewN | apply Kd.R_drew)); exact HO325.out))) (below_size (by repeat (first | (with_reducible first | exact HB.out | apply below_alloc | apply pw_below_drewN | apply below_drew1 | refine below_set ?_ GE295.out | refine below_set ?_ GE296.out | refine below_set ?_ GE310.out | refine below_set ?_ GE316.out | refine below_set ?_ GE321.out | refine below_set ?_ GE326.out) | exact HB.out))))
            have n8_ := Aside0.mk (blk_below (g := gb295) (o := .cells #[.int .i64 t298, .slice Ao33 t299.length co33] 24 (0, 0)) (by (with_reducible repeat (first | refine blk_drewN ?_ _ | refine blk_drew ?_ | refine blk_alloc ?_ _)); exact BK295.out) hb)
            have n9_ := Aside0.mk (blk_below (g := gb296) (o := .cells #[.int .i64 t302, .slice Ao37 t303.length co37] 24 (0, 0)) (by (with_reducible repeat (first | refine blk_drewN ?_ _ | refine blk_drew ?_ | refine blk_alloc ?_ _)); exact BK296.out) hb)
            have n10_ := Aside0.mk (blk_below (g := gb310) (o := .cells #[.int .i64 t306, .slice Ao45 t307.length co45] 27 (0, 0)) (by (with_reducible repeat (first | refine blk_drewN ?_ _ | refine blk_drew ?_ | refine blk_alloc ?_ _)); exact BK310.out) hb)
            have n11_ := Aside0.mk (blk_below (g := gb316) (o := .cells #[.int .i64 t312, .slice Ao54 t313.length co54] 27 (0, 0)) (by (with_reducible repeat (first | refine blk_drewN ?_ _ | refine blk_drew ?_ | refine blk_alloc ?_ _)); exact BK316.out) hb)
            have n12_ := Aside0.mk (blk_below (g := gb321) (o := .cells #[.int .i64 t317, .slice Ao62 t318.length co62] 27 (0, 0)) (by (with_reducible repeat (first | refine blk_drewN ?_ _ | refine blk_drew ?_ | refine blk_alloc ?_ _)); exact BK321.out) hb)
            have n13_ := Aside0.mk (blk_below (g := gb326) (o := .cells #[.int .i64 t322, .slice Ao72 t323.length co72] 27 (0, 0)) (by (with_reducible repeat (first | refine blk_drewN ?_ _ | refine blk_drew ?_ | refine blk_alloc ?_ _)); exact BK326.out) hb)
            have n14_ := Aside0.mk (below_step (by repeat (first | (with_reducible first | exact HB.out | apply below_alloc | apply pw_below_drewN | apply below_drew1 | refine below_set ?_ GE295.out | refine below_set ?_ GE296.out | refine below_set ?_ GE310.out | refine below_set ?_ GE316.out | refine below_set ?_ GE321.out | refine below_set ?_ GE326.out) | exact HB.out)) hb)
            clear HO301
            clear HO305
            clear HO309
            clear HO315
            clear HO320
            clear HO325
            clear HO333
            clear BK295
            clear BK296
            clear BK310
            clear BK316
            clear BK321
            clear BK326
            clear HB
            have HO301 := n0_
            have HO305 := n1_
            have HO309 := n2_
            have HO315 := n3_
            have HO320 := n4_
            have HO325 := n5_
            have HO333 := n6_
            have HO339 := n7_
            have BK295 := n8_
            have BK296 := n9_
            have BK310 := n10_
            have BK316 := n11_
            have BK321 := n12_
            have BK326 := n13_
            have HB := n14_
            clear n0_ n1_ n2_ n3_ n4_ n5_ n6_ n7_ n8_ n9_ n10_ n11_ n12_ n13_ n14_
            (try clear hb)
            (try clear hb2)
            (try clear hk)
            (try clear hi)
            (try clear ho0)
            refine hK.out _ _ ⟨(blk_cell BK316.out 0).trans rfl, (blk_cell BK316.out 1).trans rfl, (blk_cell BK310.out 0).trans rfl, (blk_cell BK310.out 1).trans rfl, (blk_cell BK321.out 0).trans rfl, (blk_cell BK321.out 1).trans rfl, (blk_cell BK326.out 0).trans rfl, (blk_cell BK326.out 1).trans rfl, (blk_cell BK295.out 0).trans rfl, (blk_cell BK295.out 1).trans rfl, (blk_cell BK296.out 0).trans rfl, (blk_cell BK296.out 1).trans rfl⟩ (fun hHeld => ?_)
            clear hK K
            refine norm_ (a' := ?_) ?_ ?_
            rotate_left
            · show Act.put _ (some 75) _ = _
              simp only [Act.put, List.setIfInBounds_toArray, List.set_cons_zero, List.set_cons_succ, i64_w, i32_w]
              rfl
            refine one_ (i := 46) (N := some 77) #[true, true, true, true, true, true, true, true, true, true, true, true, true, true, true, true, true, true, true, true, true, true, true, true, true, true, true, true, true, true, true, true, true, true, true, true, true, true, true, true, true, true, true, true, true, true, true, false, false, false] rfl rfl (one_of HT_.out (by kernel_rfl)) (by decide) (fun K hK => ?_)
            refine goes_ Try.func17 (by kernel_rfl) rfl #[.agg #[.int .i64 t306, .slice Ao45 t307.length co45], .int .i64 0, .int .i64 1] (by rfl) rfl rfl (by (try simp only [List.map_toArray, List.map_cons, List.map_nil]); first | done | rfl | (simp only [List.length_drop, List.length_take]; rfl)) ?_
            with_reducible refine (stack_Put.calls t306 _ _ t307 0 1 t340 t341 _ ?side1 ?side2 A24.out).mono ?_
            (case side1 => repeat (first | exact (Kd.V_reads' HO309.out).2.2 | (with_reducible refine Kd.C_alloc ?_ _) | (with_reducible refine Kd.C_drewN ?_ _) | (with_reducible refine Kd.C_drew ?_)))
            (case side2 => exact (Kd.V_reads' HO309.out).2.1)
            rintro e w81 ⟨v342, rfl, ho0, hb⟩
            refine ⟨_, rfl, ?_⟩
            have n0_ := Aside0.mk (Kd.R_elder' (by (with_reducible repeat (first | apply Kd.R_alloc | apply Kd.R_drewN | apply Kd.R_drew)); exact HO301.out) (Kd.R_base ho0) hb)
            have n1_ := Aside0.mk (Kd.R_elder' (by (with_reducible repeat (first | apply Kd.R_alloc | apply Kd.R_drewN | apply Kd.R_drew)); exact HO305.out) (Kd.R_base ho0) hb)
            have n2_ := Aside0.mk (Kd.V_elder' (by (with_reducible repeat (first | apply Kd.V_alloc | apply Kd.V_drewN | apply Kd.V_drew)); exact HO309.out) (Kd.R_base ho0) hb)
            have n3_ := Aside0.mk (Kd.R_elder' (by (with_reducible repeat (first | apply Kd.R_alloc | apply Kd.R_drewN | apply Kd.R_drew)); exact HO315.out) (Kd.R_base ho0) hb)
            have n4_ := Aside0.mk (Kd.R_elder' (by (with_reducible repeat (first | apply Kd.R_alloc | apply Kd.R_drewN | apply Kd.R_drew)); exact HO320.out) (Kd.R_base ho0) hb)
            have n5_ := Aside0.mk (Kd.R_elder' (by (with_reducible repeat (first | apply Kd.R_alloc | apply Kd.R_drewN | apply Kd.R_drew)); exact HO325.out) (Kd.R_base ho0) hb)
            have n6_ := Aside0.mk (Kd.V_elder' (by (with_reducible repeat (first | apply Kd.V_alloc | apply Kd.V_drewN | apply Kd.V_drew)); exact HO333.out) (Kd.R_base ho0) hb)
            have n7_ := Aside0.mk (Kd.R_elder' (by (with_reducible repeat (first | apply Kd.R_alloc | apply Kd.R_drewN | apply Kd.R_drew)); exact HO339.out) (Kd.R_base ho0) hb)
            have n8_ := Aside0.mk (Kd.R_lower (Kd.R_new' (Kd.R_new' (Kd.R_new' (Kd.R_new' (Kd.R_new' (Kd.R_new' ho0 (Kd.R_lt (by (with_reducible repeat (first | apply Kd.R_alloc | apply Kd.R_drewN | apply Kd.R_drew)); exact HO301.out))) (Kd.R_lt (by (with_reducible repeat (first | apply Kd.R_alloc | apply Kd.R_drewN | apply Kd.R_drew)); exact HO305.out))) (Kd.R_lt (by (with_reducible repeat (first | apply Kd.R_alloc | apply Kd.R_drewN | apply Kd.R_drew)); exact HO315.out))) (Kd.R_lt (by (with_reducible repeat (first | apply Kd.R_alloc | apply Kd.R_drewN | apply Kd.R_drew)); exact HO320.out))) (Kd.R_lt (by (with_reducible repeat (first | apply Kd.R_alloc | apply Kd.R_drewN | apply Kd.R_drew)); exact HO325.out))) (Kd.R_lt (by (with_reducible repeat (first | apply Kd.R_alloc | apply Kd.R_drewN | apply Kd.R_drew)); exact HO339.out))) (below_size (by repeat (first | (with_reducible first | exact HB.out | apply below_alloc | apply pw_below_drewN | apply below_drew1 | refine below_set ?_ GE295.out | refine below_set ?_ GE296.out | refine below_set ?_ GE310.out | refine below_set ?_ GE316.out | refine below_set ?_ GE321.out | refine below_set ?_ GE326.out) | exact HB.out))))
            have n9_ := Aside0.mk (blk_below (g := gb295) (o := .cells #[.int .i64 t298, .slice Ao33 t299.length co33] 24 (0, 0)) (by (with_reducible repeat (first | refine blk_drewN ?_ _ | refine blk_drew ?_ | refine blk_alloc ?_ _)); exact BK295.out) hb)
            have n10_ := Aside0.mk (blk_below (g := gb296) (o := .cells #[.int .i64 t302, .slice Ao37 t303.length co37] 24 (0, 0)) (by (with_reducible repeat (first | refine blk_drewN ?_ _ | refine blk_drew ?_ | refine blk_alloc ?_ _)); exact BK296.out) hb)
            have n11_ := Aside0.mk (blk_below (g := gb310) (o := .cells #[.int .i64 t306, .slice Ao45 t307.length co45] 27 (0, 0)) (by (with_reducible repeat (first | refine blk_drewN ?_ _ | refine blk_drew ?_ | refine blk_alloc ?_ _)); exact BK310.out) hb)
            have n12_ := Aside0.mk (blk_below (g := gb316) (o := .cells #[.int .i64 t312, .slice Ao54 t313.length co54] 27 (0, 0)) (by (with_reducible repeat (first | refine blk_drewN ?_ _ | refine blk_drew ?_ | refine blk_alloc ?_ _)); exact BK316.out) hb)
            have n13_ := Aside0.mk (blk_below (g := gb321) (o := .cells #[.int .i64 t317, .slice Ao62 t318.length co62] 27 (0, 0)) (by (with_reducible repeat (first | refine blk_drewN ?_ _ | refine blk_drew ?_ | refine blk_alloc ?_ _)); exact BK321.out) hb)
            have n14_ := Aside0.mk (blk_below (g := gb326) (o := .cells #[.int .i64 t322, .slice Ao72 t323.length co72] 27 (0, 0)) (by (with_reducible repeat (first | refine blk_drewN ?_ _ | refine blk_drew ?_ | refine blk_alloc ?_ _)); exact BK326.out) hb)
            have n15_ := Aside0.mk (below_step (by repeat (first | (with_reducible first | exact HB.out | apply below_alloc | apply pw_below_drewN | apply below_drew1 | refine below_set ?_ GE295.out | refine below_set ?_ GE296.out | refine below_set ?_ GE310.out | refine below_set ?_ GE316.out | refine below_set ?_ GE321.out | refine below_set ?_ GE326.out) | exact HB.out)) hb)
            clear HO301
            clear HO305
            clear HO309
            clear HO315
            clear HO320
            clear HO325
            clear HO333
            clear HO339
            clear BK295
            clear BK296
            clear BK310
            clear BK316
            clear BK321
            clear BK326
            clear HB
            have HO301 := n0_
            have HO305 := n1_
            have HO309 := n2_
            have HO315 := n3_
            have HO320 := n4_
            have HO325 := n5_
            have HO333 := n6_
            have HO339 := n7_
            have HO343 := n8_
            have BK295 := n9_
            have BK296 := n10_
            have BK310 := n11_
            have BK316 := n12_
            have BK321 := n13_
            have BK326 := n14_
            have HB := n15_
            clear n0_ n1_ n2_ n3_ n4_ n5_ n6_ n7_ n8_ n9_ n10_ n11_ n12_ n13_ n14_ n15_
            (try clear hb)
            (try clear hb2)
            (try clear hk)
            (try clear hi)
            (try clear ho0)
            obtain ⟨Ao82, co82, eo82⟩ := Kd.R_slice HO339.out
            (first | subst eo82 | (injection eo82 with f1_ f2_ f3_; have f4_ := f1_.symm; have f5_ := f3_.symm; clear f1_ f2_ f3_; subst f4_; subst f5_))
            obtain ⟨Ao83, co83, eo83⟩ := Kd.R_slice HO343.out
            (first | subst eo83 | (injection eo83 with f1_ f2_ f3_; have f4_ := f1_.symm; have f5_ := f3_.symm; clear f1_ f2_ f3_; subst f4_; subst f5_))
            refine hK.out _ _ ⟨(blk_cell BK316.out 0).trans rfl, (blk_cell BK316.out 1).trans rfl, (blk_cell BK310.out 0).trans rfl, (blk_cell BK310.out 1).trans rfl, (blk_cell BK321.out 0).trans rfl, (blk_cell BK321.out 1).trans rfl, (blk_cell BK326.out 0).trans rfl, (blk_cell BK326.out 1).trans rfl, (blk_cell BK295.out 0).trans rfl, (blk_cell BK295.out 1).trans rfl, (blk_cell BK296.out 0).trans rfl, (blk_cell BK296.out 1).trans rfl⟩ (fun hHeld => ?_)
            clear hK K
            refine norm_ (a' := ?_) ?_ ?_
            rotate_left
            · show Act.put _ (some 77) _ = _
              simp only [Act.put, List.setIfInBounds_toArray, List.set_cons_zero, List.set_cons_succ, i64_w, i32_w]
              rfl
            refine one_ (i := 47) (N := some 78) #[true, true, true, true, true, true, true, true, true, true, true, true, true, true, true, true, true, true, true, true, true, true, true, true, true, true, true, true, true, true, true, true, true, true, true, true, true, true, true, true, true, true, true, true, true, true, true, true, false, false] rfl rfl (one_of HT_.out (by kernel_rfl)) (by decide) (fun K hK => ?_)
            refine goes_ Try.func20 (by kernel_rfl) rfl #[.agg #[.int .i64 t336, .slice Ao82 t337.length co82], .agg #[.int .i64 t340, .slice Ao83 t341.length co83]] (by rfl) rfl rfl (by (try simp only [List.map_toArray, List.map_cons, List.map_nil]); first | done | rfl | (simp only [List.length_drop, List.length_take]; rfl)) ?_
            with_reducible refine (stack_Same.calls k t336 _ _ t337 t340 _ _ t341 t344 _ ?side1 ?side2 ?side3 ?side4 A25.out).mono ?_
            (case side1 => repeat (first | exact (Kd.R_reads' HO339.out).2.2 | (with_reducible refine Kd.C_alloc ?_ _) | (with_reducible refine Kd.C_drewN ?_ _) | (with_reducible refine Kd.C_drew ?_)))
            (case side2 => exact (Kd.R_reads' HO339.out).2.1)
            (case side3 => repeat (first | exact (Kd.R_reads' HO343.out).2.2 | (with_reducible refine Kd.C_alloc ?_ _) | (with_reducible refine Kd.C_drewN ?_ _) | (with_reducible refine Kd.C_drew ?_)))
            (case side4 => exact (Kd.R_reads' HO343.out).2.1)
            rintro e w84 ⟨rfl, hb⟩
            refine ⟨_, rfl, ?_⟩
            have n0_ := Aside0.mk (Kd.R_below (by (with_reducible repeat (first | apply Kd.R_alloc | apply Kd.R_drewN | apply Kd.R_drew)); exact HO301.out) hb)
            have n1_ := Aside0.mk (Kd.R_below (by (with_reducible repeat (first | apply Kd.R_alloc | apply Kd.R_drewN | apply Kd.R_drew)); exact HO305.out) hb)
            have n2_ := Aside0.mk (Kd.V_below (by (with_reducible repeat (first | apply Kd.V_alloc | apply Kd.V_drewN | apply Kd.V_drew)); exact HO309.out) hb)
            have n3_ := Aside0.mk (Kd.R_below (by (with_reducible repeat (first | apply Kd.R_alloc | apply Kd.R_drewN | apply Kd.R_drew)); exact HO315.out) hb)
            have n4_ := Aside0.mk (Kd.R_below (by (with_reducible repeat (first | apply Kd.R_alloc | apply Kd.R_drewN | apply Kd.R_drew)); exact HO320.out) hb)
            have n5_ := Aside0.mk (Kd.R_below (by (with_reducible repeat (first | apply Kd.R_alloc | apply Kd.R_drewN | apply Kd.R_drew)); exact HO325.out) hb)
            have n6_ := Aside0.mk (Kd.V_below (by (with_reducible repeat (first | apply Kd.V_alloc | apply Kd.V_drewN | apply Kd.V_drew)); exact HO333.out) hb)
            have n7_ := Aside0.mk (Kd.R_below (by (with_reducible repeat (first | apply Kd.R_alloc | apply Kd.R_drewN | apply Kd.R_drew)); exact HO339.out) hb)
            have n8_ := Aside0.mk (Kd.R_below (by (with_reducible repeat (first | apply Kd.R_alloc | apply Kd.R_drewN | apply Kd.R_drew)); exact HO343.out) hb)
            have n9_ := Aside0.mk (blk_below (g := gb295) (o := .cells #[.int .i64 t298, .slice Ao33 t299.length co33] 24 (0, 0)) (by (with_reducible repeat (first | refine blk_drewN ?_ _ | refine blk_drew ?_ | refine blk_alloc ?_ _)); exact BK295.out) hb)
            have n10_ := Aside0.mk (blk_below (g := gb296) (o := .cells #[.int .i64 t302, .slice Ao37 t303.length co37] 24 (0, 0)) (by (with_reducible repeat (first | refine blk_drewN ?_ _ | refine blk_drew ?_ | refine blk_alloc ?_ _)); exact BK296.out) hb)
            have n11_ := Aside0.mk (blk_below (g := gb310) (o := .cells #[.int .i64 t306, .slice Ao45 t307.length co45] 27 (0, 0)) (by (with_reducible repeat (first | refine blk_drewN ?_ _ | refine blk_drew ?_ | refine blk_alloc ?_ _)); exact BK310.out) hb)
            have n12_ := Aside0.mk (blk_below (g := gb316) (o := .cells #[.int .i64 t312, .slice Ao54 t313.length co54] 27 (0, 0)) (by (with_reducible repeat (first | refine blk_drewN ?_ _ | refine blk_drew ?_ | refine blk_alloc ?_ _)); exact BK316.out) hb)
            have n13_ := Aside0.mk (blk_below (g := gb321) (o := .cells #[.int .i64 t317, .slice Ao62 t318.length co62] 27 (0, 0)) (by (with_reducible repeat (first | refine blk_drewN ?_ _ | refine blk_drew ?_ | refine blk_alloc ?_ _)); exact BK321.out) hb)
            have n14_ := Aside0.mk (blk_below (g := gb326) (o := .cells #[.int .i64 t322, .slice Ao72 t323.length co72] 27 (0, 0)) (by (with_reducible repeat (first | refine blk_drewN ?_ _ | refine blk_drew ?_ | refine blk_alloc ?_ _)); exact BK326.out) hb)
            have n15_ := Aside0.mk (below_step (by repeat (first | (with_reducible first | exact HB.out | apply below_alloc | apply pw_below_drewN | apply below_drew1 | refine below_set ?_ GE295.out | refine below_set ?_ GE296.out | refine below_set ?_ GE310.out | refine below_set ?_ GE316.out | refine below_set ?_ GE321.out | refine below_set ?_ GE326.out) | exact HB.out)) hb)
            clear HO301
            clear HO305
            clear HO309
            clear HO315
            clear HO320
            clear HO325
            clear HO333
            clear HO339
            clear HO343
            clear BK295
            clear BK296
            clear BK310
            clear BK316
            clear BK321
            clear BK326
            clear HB
            have HO301 := n0_
            have HO305 := n1_
            have HO309 := n2_
            have HO315 := n3_
            have HO320 := n4_
            have HO325 := n5_
            have HO333 := n6_
            have HO339 := n7_
            have HO343 := n8_
            have BK295 := n9_
            have BK296 := n10_
            have BK310 := n11_
            have BK316 := n12_
            have BK321 := n13_
            have BK326 := n14_
            have HB := n15_
            clear n0_ n1_ n2_ n3_ n4_ n5_ n6_ n7_ n8_ n9_ n10_ n11_ n12_ n13_ n14_ n15_
            (try clear hb)
            (try clear hb2)
            (try clear hk)
            (try clear hi)
            refine hK.out _ _ ⟨(blk_cell BK316.out 0).trans rfl, (blk_cell BK316.out 1).trans rfl, (blk_cell BK310.out 0).trans rfl, (blk_cell BK310.out 1).trans rfl, (blk_cell BK321.out 0).trans rfl, (blk_cell BK321.out 1).trans rfl, (blk_cell BK326.out 0).trans rfl, (blk_cell BK326.out 1).trans rfl, (blk_cell BK295.out 0).trans rfl, (blk_cell BK295.out 1).trans rfl, (blk_cell BK296.out 0).trans rfl, (blk_cell BK296.out 1).trans rfl⟩ (fun hHeld => ?_)
            clear hK K
            refine norm_ (a' := ?_) ?_ ?_
            rotate_left
            · show Act.put _ (some 78) _ = _
              simp only [Act.put, List.setIfInBounds_toArray, List.set_cons_zero, List.set_cons_succ, i64_w, i32_w]
              rfl
            refine pure_ (i := 48) (N := some 79) (v := ?_) (a' := ?_) #[true, true, true, true, true, true, true, true, true, true, true, true, true, true, true, true, true, true, true, true, true, true, true, true, true, true, true, true, true, true, true, true, true, true, true, true, true, true, true, true, true, true, true, true, true, true, true, true, true, false] rfl rfl (any_of HT_.out (by kernel_rfl)) (fun _ _ _ h => h) (Or.inl ⟨by rfl, ?_⟩) ?_ ?_
            rotate_left
            · intro w'
              go_simp
              with_reducible rfl
            rotate_left
            · simp only [Act.put, List.setIfInBounds_toArray, List.set_cons_zero, List.set_cons_succ, i64_w, i32_w]
              rfl
            refine pure_ (i := 49) (N := some 6) (v := ?_) (a' := ?_) #[true, true, true, true, true, true, true, true, true, true, true, true, true, true, true, true, true, true, true, true, true, true, true, true, true, true, true, true, true, true, true, true, true, true, true, true, true, true, true, true, true, true, true, true, true, true, true, true, true, true] rfl rfl (any_of HT_.out (by kernel_rfl)) (fun _ _ _ h => h) (Or.inl ⟨by rfl, ?_⟩) ?_ ?_
            rotate_left
            · intro w'
              go_simp
              with_reducible rfl
            rotate_left
            · simp only [Act.put, List.setIfInBounds_toArray, List.set_cons_zero, List.set_cons_succ, i64_w, i32_w]
              rfl
            refine done_ (done_of HT_.out (by kernel_rfl)) ?_
            try go_wp2
            go_ret
            exact ⟨by first | rfl | (simp [errW_none, errW_some] <;> rfl) | (simp [*, errW_none, errW_some] <;> rfl), by repeat (first | (with_reducible first | exact HB.out | apply below_alloc | apply pw_below_drewN | apply below_drew1 | refine below_set ?_ GE295.out | refine below_set ?_ GE296.out | refine below_set ?_ GE310.out | refine below_set ?_ GE316.out | refine below_set ?_ GE321.out | refine below_set ?_ GE326.out) | exact HB.out)⟩
          · rw [if_neg c22] at H
            have c22b0 : (t334 == t335) = false := by simpa using c22
            (try (have c22b1 : decide (t334 = t335) = false := by simpa using c22))
            (try (have c22b2 : (t334 == t335) = false := by simpa using c22))
            (try (have c22b3 : ¬ (t334 = t335) := by simpa using c22))
            clear c22
            exact absurd H (by simp)
        · replace c18 := Bool.eq_false_iff.mpr c18
          subst c18
          have H1 : (none) = some r := by rw [if_neg (show ¬ (false = true) by decide)] at H; exact H
          clear H
          have H := H1
          clear H1
          exact absurd H (by simp)
      · rw [if_neg c16] at H
        have c16b0 : (t317 == (wrap64 (t306 - t328))) = false := beq_eq_false_iff_ne.mpr c16
        have c16b1 : (t317 != (wrap64 (t306 - t328))) = true := bne_iff_ne.mpr c16
        exact absurd H (by simp)
    · rw [if_neg c14] at H
      have c14b0 : (t312 == (wrap64 ((wrap64 (t306 + t311)) - t327))) = false := beq_eq_false_iff_ne.mpr c14
      have c14b1 : (t312 != (wrap64 ((wrap64 (t306 + t311)) - t327))) = true := bne_iff_ne.mpr c14
      exact absurd H (by simp)
  · replace c12 := Bool.eq_false_iff.mpr c12
    subst c12
    have H1 : (none) = some r := by rw [if_neg (show ¬ (false = true) by decide)] at H; exact H
    clear H
    have H := H1
    clear H1
    exact absurd H (by simp)

end Go.Proofs.Ytlnnjdjdpfifiaa.R
