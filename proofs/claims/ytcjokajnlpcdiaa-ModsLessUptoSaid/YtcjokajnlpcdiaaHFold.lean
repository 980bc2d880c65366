import Derived.Test.YtcjokajnlpcdiaaHMap
import Derived.Test.YtcjokajnlpcdiaaWWords
import Derived.Test.YtcjokajnlpcdiaaWLast
/- mods.Fold -/
namespace Go.Proofs.Ytcjokajnlpcdiaa.H
open Go Go.RowKit Go.Maps Go.Proofs.YtcjokajnlpcdiaaW.PrintWords Go.Proofs.YtcjokajnlpcdiaaW.PrintLast
set_option linter.unusedVariables false
set_option linter.unusedSimpArgs false
theorem zero3' (W : World) : (zeroValue 3).run Try.prog W = .ok (.int .i64 0) W := by kernel_rfl
theorem below_drew' {B : Nat} {w W : World} (h : Below B w W) : Below B w W.drew := ⟨h.os, h.tape, h.output, h.size, h.block⟩
@[reducible] def foldV : List (Int × Value) := [(32, .int .i64 0), (50, .int .i64 0), (64, .int .i64 0), (51, .int .i64 27), (91, .int .i64 27), (52, .int .i64 28), (92, .int .i64 28), (53, .int .i64 29), (93, .int .i64 29), (54, .int .i64 30), (94, .int .i64 30), (55, .int .i64 31), (47, .int .i64 31), (95, .int .i64 31), (56, .int .i64 127), (63, .int .i64 127)]
def foldL : List (Int × Int) := [(32, 0), (50, 0), (64, 0), (51, 27), (91, 27), (52, 28), (92, 28), (53, 29), (93, 29), (54, 30), (94, 30), (55, 31), (47, 31), (95, 31), (56, 127), (63, 127)]
theorem fold_look (a : Int) : look foldV a = ((foldL.find? (fun x => x.1 == a)).map (fun x => Value.int .i64 x.2)) := by
  unfold foldL
  simp only [foldV, look, List.find?]
  by_cases h0 : a = 32
  · subst h0; rfl
  rw [if_neg h0, beq_eq_false_iff_ne.mpr (Ne.symm h0)]
  by_cases h1 : a = 50
  · subst h1; rfl
  rw [if_neg h1, beq_eq_false_iff_ne.mpr (Ne.symm h1)]
  by_cases h2 : a = 64
  · subst h2; rfl
  rw [if_neg h2, beq_eq_false_iff_ne.mpr (Ne.symm h2)]
  by_cases h3 : a = 51
  · subst h3; rfl
  rw [if_neg h3, beq_eq_false_iff_ne.mpr (Ne.symm h3)]
  by_cases h4 : a = 91
  · subst h4; rfl
  rw [if_neg h4, beq_eq_false_iff_ne.mpr (Ne.symm h4)]
  by_cases h5 : a = 52
  · subst h5; rfl
  rw [if_neg h5, beq_eq_false_iff_ne.mpr (Ne.symm h5)]
  by_cases h6 : a = 92
  · subst h6; rfl
  rw [if_neg h6, beq_eq_false_iff_ne.mpr (Ne.symm h6)]
  by_cases h7 : a = 53
  · subst h7; rfl
  rw [if_neg h7, beq_eq_false_iff_ne.mpr (Ne.symm h7)]
  by_cases h8 : a = 93
  · subst h8; rfl
  rw [if_neg h8, beq_eq_false_iff_ne.mpr (Ne.symm h8)]
  by_cases h9 : a = 54
  · subst h9; rfl
  rw [if_neg h9, beq_eq_false_iff_ne.mpr (Ne.symm h9)]
  by_cases h10 : a = 94
  · subst h10; rfl
  rw [if_neg h10, beq_eq_false_iff_ne.mpr (Ne.symm h10)]
  by_cases h11 : a = 55
  · subst h11; rfl
  rw [if_neg h11, beq_eq_false_iff_ne.mpr (Ne.symm h11)]
  by_cases h12 : a = 47
  · subst h12; rfl
  rw [if_neg h12, beq_eq_false_iff_ne.mpr (Ne.symm h12)]
  by_cases h13 : a = 95
  · subst h13; rfl
  rw [if_neg h13, beq_eq_false_iff_ne.mpr (Ne.symm h13)]
  by_cases h14 : a = 56
  · subst h14; rfl
  rw [if_neg h14, beq_eq_false_iff_ne.mpr (Ne.symm h14)]
  by_cases h15 : a = 63
  · subst h15; rfl
  rw [if_neg h15, beq_eq_false_iff_ne.mpr (Ne.symm h15)]
  rfl
/-- The control character of a character. -/
def foldC (a : Int) : Int × Bool := if 97 ≤ a ∧ a ≤ 122 then (a - 96, true) else if 65 ≤ a ∧ a ≤ 90 then (a - 64, true) else if a < 0 ∨ 255 < a then (0, false) else match foldL.find? (fun x => x.1 == a) with
  | some x => (x.2, true)
  | none => (0, false)
attribute [local go_sem] objAt_alloc objAt_drew objAt_drewN objAt_setCell look_nil look_cons
set_option maxRecDepth 100000 in
set_option maxHeartbeats 4000000 in
theorem fold_1 (a : Int) (w : World) (h : 97 ≤ a ∧ a ≤ 122) : Calls Try.prog 14 #[.int .i64 a] w fun e w' => e = .returned (.tuple #[.int .i64 (a - 96), .bool true]) ∧ Below w.heap.size w w' := by
  have hmm := fun W => run_made (P := Try.prog) 44 .i32 W
  have hput := fun W l n hn a v hf => run_put (P := Try.prog) 44 21 3 .i32 Try.underlying44 Try.underlying21 W l n hn a v hf
  have d0 : decide (a ≥ 97) = true := decide_eq_true (by omega)
  have d1 : decide (a ≤ 122) = true := decide_eq_true (by omega)
  go_enter Try.func14, Try.ntmps14
  go_wp2
  go_ret2
  exact ⟨by rw [show a - 96 = a - 97 + 1 by omega]; rfl, below_alloc (Below.refl _ _) _⟩
set_option maxRecDepth 100000 in
set_option maxHeartbeats 4000000 in
theorem fold_2 (a : Int) (w : World) (h : 65 ≤ a ∧ a ≤ 90) : Calls Try.prog 14 #[.int .i64 a] w fun e w' => e = .returned (.tuple #[.int .i64 (a - 64), .bool true]) ∧ Below w.heap.size w w' := by
  have hmm := fun W => run_made (P := Try.prog) 44 .i32 W
  have hput := fun W l n hn a v hf => run_put (P := Try.prog) 44 21 3 .i32 Try.underlying44 Try.underlying21 W l n hn a v hf
  have d0 : decide (a ≥ 97) = false := decide_eq_false (by omega)
  have d1 : decide (a ≥ 65) = true := decide_eq_true (by omega)
  have d2 : decide (a ≤ 90) = true := decide_eq_true (by omega)
  go_enter Try.func14, Try.ntmps14
  go_wp2
  go_ret2
  exact ⟨by rw [show a - 64 = a - 65 + 1 by omega]; rfl, below_alloc (Below.refl _ _) _⟩
set_option maxRecDepth 100000 in
set_option maxHeartbeats 4000000 in
theorem fold_3 (a : Int) (w : World) (h : a < 0) : Calls Try.prog 14 #[.int .i64 a] w fun e w' => e = .returned (.tuple #[.int .i64 0, .bool false]) ∧ Below w.heap.size w w' := by
  have hmm := fun W => run_made (P := Try.prog) 44 .i32 W
  have hput := fun W l n hn a v hf => run_put (P := Try.prog) 44 21 3 .i32 Try.underlying44 Try.underlying21 W l n hn a v hf
  have d0 : decide (a ≥ 97) = false := decide_eq_false (by omega)
  have d1 : decide (a ≥ 65) = false := decide_eq_false (by omega)
  have d2 : decide (a < 0) = true := decide_eq_true (by omega)
  go_enter Try.func14, Try.ntmps14
  go_wp2
  go_ret2
  exact ⟨rfl, below_alloc (Below.refl _ _) _⟩
set_option maxRecDepth 100000 in
set_option maxHeartbeats 4000000 in
theorem fold_4 (a : Int) (w : World) (h : 255 < a) : Calls Try.prog 14 #[.int .i64 a] w fun e w' => e = .returned (.tuple #[.int .i64 0, .bool false]) ∧ Below w.heap.size w w' := by
  have hmm := fun W => run_made (P := Try.prog) 44 .i32 W
  have hput := fun W l n hn a v hf => run_put (P := Try.prog) 44 21 3 .i32 Try.underlying44 Try.underlying21 W l n hn a v hf
  have d0 : decide (a ≥ 97) = true := decide_eq_true (by omega)
  have d1 : decide (a ≤ 122) = false := decide_eq_false (by omega)
  have d2 : decide (a ≥ 65) = true := decide_eq_true (by omega)
  have d3 : decide (a ≤ 90) = false := decide_eq_false (by omega)
  have d4 : decide (a < 0) = false := decide_eq_false (by omega)
  have d5 : decide (a > 255) = true := decide_eq_true (by omega)
  go_enter Try.func14, Try.ntmps14
  go_wp2
  go_ret2
  exact ⟨rfl, below_alloc (Below.refl _ _) _⟩
set_option maxRecDepth 100000 in
set_option maxHeartbeats 4000000 in
theorem fold_5 (a : Int) (w : World) (h : 0 ≤ a ∧ a < 65) : Calls Try.prog 14 #[.int .i64 a] w fun e w' => e = .returned (.tuple #[(look foldV a).getD (.int .i64 0), .bool (look foldV a).isSome]) ∧ Below w.heap.size w w' := by
  have hmm := fun W => run_made (P := Try.prog) 44 .i32 W
  have hput := fun W l n hn a v hf => run_put (P := Try.prog) 44 21 3 .i32 Try.underlying44 Try.underlying21 W l n hn a v hf
  have hlk := fun W hb a => run_look (P := Try.prog) 44 21 3 .i32 Try.underlying44 Try.underlying21 (.int .i64 0) zero3' W w.heap.size foldV hb a true
  have hw32 : wrap32 a = a := by unfold wrap32; omega
  have hwi : IntKind.i32.wrap a = a := by rw [i32_w]; exact hw32
  obtain ⟨vv, hvv⟩ : ∃ v, (look foldV a).getD (.int .i64 0) = v := ⟨_, rfl⟩
  obtain ⟨bb, hbb⟩ : ∃ v, (look foldV a).isSome = v := ⟨_, rfl⟩
  replace hlk : ∀ W, objAt W w.heap.size = some (imap .i32 foldV) → (Instr.lookup 44 (.map (some w.heap.size)) (.int .i32 a) true).run Try.prog W = .ok (.tuple #[vv, .bool bb]) W := fun W hb => by have := hlk W hb a; rw [hvv, hbb] at this; exact this
  rw [hvv, hbb]
  clear hvv hbb
  have d0 : decide (a ≥ 97) = false := decide_eq_false (by omega)
  have d1 : decide (a ≥ 65) = false := decide_eq_false (by omega)
  have d2 : decide (a < 0) = false := decide_eq_false (by omega)
  have d3 : decide (a > 255) = false := decide_eq_false (by omega)
  go_enter Try.func14, Try.ntmps14
  go_wp2
  go_ret2
  exact ⟨rfl, below_alloc (Below.refl _ _) _⟩
set_option maxRecDepth 100000 in
set_option maxHeartbeats 4000000 in
theorem fold_6 (a : Int) (w : World) (h : 90 < a ∧ a < 97) : Calls Try.prog 14 #[.int .i64 a] w fun e w' => e = .returned (.tuple #[(look foldV a).getD (.int .i64 0), .bool (look foldV a).isSome]) ∧ Below w.heap.size w w' := by
  have hmm := fun W => run_made (P := Try.prog) 44 .i32 W
  have hput := fun W l n hn a v hf => run_put (P := Try.prog) 44 21 3 .i32 Try.underlying44 Try.underlying21 W l n hn a v hf
  have hlk := fun W hb a => run_look (P := Try.prog) 44 21 3 .i32 Try.underlying44 Try.underlying21 (.int .i64 0) zero3' W w.heap.size foldV hb a true
  have hw32 : wrap32 a = a := by unfold wrap32; omega
  have hwi : IntKind.i32.wrap a = a := by rw [i32_w]; exact hw32
  obtain ⟨vv, hvv⟩ : ∃ v, (look foldV a).getD (.int .i64 0) = v := ⟨_, rfl⟩
  obtain ⟨bb, hbb⟩ : ∃ v, (look foldV a).isSome = v := ⟨_, rfl⟩
  replace hlk : ∀ W, objAt W w.heap.size = some (imap .i32 foldV) → (Instr.lookup 44 (.map (some w.heap.size)) (.int .i32 a) true).run Try.prog W = .ok (.tuple #[vv, .bool bb]) W := fun W hb => by have := hlk W hb a; rw [hvv, hbb] at this; exact this
  rw [hvv, hbb]
  clear hvv hbb
  have d0 : decide (a ≥ 97) = false := decide_eq_false (by omega)
  have d1 : decide (a ≥ 65) = true := decide_eq_true (by omega)
  have d2 : decide (a ≤ 90) = false := decide_eq_false (by omega)
  have d3 : decide (a < 0) = false := decide_eq_false (by omega)
  have d4 : decide (a > 255) = false := decide_eq_false (by omega)
  go_enter Try.func14, Try.ntmps14
  go_wp2
  go_ret2
  exact ⟨rfl, below_alloc (Below.refl _ _) _⟩
set_option maxRecDepth 100000 in
set_option maxHeartbeats 4000000 in
theorem fold_7 (a : Int) (w : World) (h : 122 < a ∧ a ≤ 255) : Calls Try.prog 14 #[.int .i64 a] w fun e w' => e = .returned (.tuple #[(look foldV a).getD (.int .i64 0), .bool (look foldV a).isSome]) ∧ Below w.heap.size w w' := by
  have hmm := fun W => run_made (P := Try.prog) 44 .i32 W
  have hput := fun W l n hn a v hf => run_put (P := Try.prog) 44 21 3 .i32 Try.underlying44 Try.underlying21 W l n hn a v hf
  have hlk := fun W hb a => run_look (P := Try.prog) 44 21 3 .i32 Try.underlying44 Try.underlying21 (.int .i64 0) zero3' W w.heap.size foldV hb a true
  have hw32 : wrap32 a = a := by unfold wrap32; omega
  have hwi : IntKind.i32.wrap a = a := by rw [i32_w]; exact hw32
  obtain ⟨vv, hvv⟩ : ∃ v, (look foldV a).getD (.int .i64 0) = v := ⟨_, rfl⟩
  obtain ⟨bb, hbb⟩ : ∃ v, (look foldV a).isSome = v := ⟨_, rfl⟩
  replace hlk : ∀ W, objAt W w.heap.size = some (imap .i32 foldV) → (Instr.lookup 44 (.map (some w.heap.size)) (.int .i32 a) true).run Try.prog W = .ok (.tuple #[vv, .bool bb]) W := fun W hb => by have := hlk W hb a; rw [hvv, hbb] at this; exact this
  rw [hvv, hbb]
  clear hvv hbb
  have d0 : decide (a ≥ 97) = true := decide_eq_true (by omega)
  have d1 : decide (a ≤ 122) = false := decide_eq_false (by omega)
  have d2 : decide (a ≥ 65) = true := decide_eq_true (by omega)
  have d3 : decide (a ≤ 90) = false := decide_eq_false (by omega)
  have d4 : decide (a < 0) = false := decide_eq_false (by omega)
  have d5 : decide (a > 255) = false := decide_eq_false (by omega)
  go_enter Try.func14, Try.ntmps14
  go_wp2
  go_ret2
  exact ⟨rfl, below_alloc (Below.refl _ _) _⟩
theorem fold_lk {a : Int} : (Value.tuple #[(look foldV a).getD (.int .i64 0), .bool (look foldV a).isSome]) = .tuple #[.int .i64 (match foldL.find? (fun (x : Int × Int) => x.1 == a) with | some x => (x.2, true) | none => ((0 : Int), false)).1, .bool (match foldL.find? (fun (x : Int × Int) => x.1 == a) with | some x => (x.2, true) | none => ((0 : Int), false)).2] := by
  rw [fold_look]
  cases foldL.find? (fun x => x.1 == a) <;> rfl
def mods_Fold.f (a0 : Int) : Option (Int × Bool) := some (foldC a0)
theorem mods_Fold.calls (a0 : Int) (r1 : Int) (r2 : Bool) (w : World) (h : mods_Fold.f a0 = some (r1, r2)) :
    Calls Try.prog 14 #[.int .i64 a0] w fun e w' => e = .returned (.tuple #[.int .i64 r1, .bool r2]) ∧ Below w.heap.size w w' := by
  have e : foldC a0 = (r1, r2) := Option.some.inj h
  unfold foldC at e
  by_cases h1 : 97 ≤ a0 ∧ a0 ≤ 122
  · rw [if_pos h1] at e; cases e; exact fold_1 a0 w h1
  rw [if_neg h1] at e
  by_cases h2 : 65 ≤ a0 ∧ a0 ≤ 90
  · rw [if_pos h2] at e; cases e; exact fold_2 a0 w h2
  rw [if_neg h2] at e
  by_cases h3 : a0 < 0
  · rw [if_pos (.inl h3)] at e; cases e; exact fold_3 a0 w h3
  by_cases h4 : 255 < a0
  · rw [if_pos (.inr h4)] at e; cases e; exact fold_4 a0 w h4
  rw [if_neg (by omega)] at e
  have key : Calls Try.prog 14 #[.int .i64 a0] w fun e w' => e = .returned (.tuple #[(look foldV a0).getD (.int .i64 0), .bool (look foldV a0).isSome]) ∧ Below w.heap.size w w' := by
    by_cases h5 : a0 < 65
    · exact fold_5 a0 w (by omega)
    by_cases h6 : a0 < 97
    · exact fold_6 a0 w (by omega)
    · exact fold_7 a0 w (by omega)
  rw [fold_lk] at key
  have e' : (match foldL.find? (fun (x : Int × Int) => x.1 == a0) with | some x => (x.2, true) | none => ((0 : Int), false)) = (r1, r2) := e
  rw [e'] at key
  exact key
end Go.Proofs.Ytcjokajnlpcdiaa.H
