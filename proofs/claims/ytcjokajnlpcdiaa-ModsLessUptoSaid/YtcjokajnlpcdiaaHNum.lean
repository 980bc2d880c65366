import Derived.Test.YtcjokajnlpcdiaaProg
import Derived.Test.YtcjokajnlpcdiaaWWords
import Derived.Test.YtcjokajnlpcdiaaWLast
import Derived.Test.YtcjokajnlpcdiaaWMore
import Derived.WalkSpells
import Derived.Outline
/- clavierref09.number: value by value. -/
namespace Go.Proofs.Ytcjokajnlpcdiaa.H
open Go Go.RowKit Go.Proofs.YtcjokajnlpcdiaaW.PrintWords Go.Proofs.YtcjokajnlpcdiaaW.PrintLast Go.Proofs.YtcjokajnlpcdiaaW.PrintMore
set_option linter.unusedVariables false
set_option linter.unusedSimpArgs false
def numL : List (Int × Int) := [(57348, 2), (57425, 2), (57349, 3), (57426, 3), (57354, 5), (57421, 5), (57355, 6), (57422, 6), (57368, 15), (57369, 17), (57370, 18), (57371, 19), (57372, 20), (57373, 21), (57374, 23), (57375, 24), (57363, 29)]
def numC (a0 : Int) : Int := match numL.find? (fun x => x.1 == a0) with
  | some x => x.2
  | none => 0
def clavierref09_number.f (a0 : Int) : Option (Int) := some (numC a0)
set_option maxRecDepth 100000 in
set_option maxHeartbeats 4000000 in
theorem num_t (a0 : Int) (w : World) : Calls Try.prog 33 #[.int .i64 a0] w fun e w' => e = .returned (.int .i64 (numC a0)) ∧ Below w.heap.size w w' := by
  by_cases h0 : a0 = 57348
  · subst h0
    go_enter Try.func33, Try.ntmps33
    go_wp2
    go_ret
    exact ⟨rfl, Below.refl _ _⟩
  by_cases h1 : a0 = 57425
  · subst h1
    go_enter Try.func33, Try.ntmps33
    go_wp2
    go_ret
    exact ⟨rfl, Below.refl _ _⟩
  by_cases h2 : a0 = 57349
  · subst h2
    go_enter Try.func33, Try.ntmps33
    go_wp2
    go_ret
    exact ⟨rfl, Below.refl _ _⟩
  by_cases h3 : a0 = 57426
  · subst h3
    go_enter Try.func33, Try.ntmps33
    go_wp2
    go_ret
    exact ⟨rfl, Below.refl _ _⟩
  by_cases h4 : a0 = 57354
  · subst h4
    go_enter Try.func33, Try.ntmps33
    go_wp2
    go_ret
    exact ⟨rfl, Below.refl _ _⟩
  by_cases h5 : a0 = 57421
  · subst h5
    go_enter Try.func33, Try.ntmps33
    go_wp2
    go_ret
    exact ⟨rfl, Below.refl _ _⟩
  by_cases h6 : a0 = 57355
  · subst h6
    go_enter Try.func33, Try.ntmps33
    go_wp2
    go_ret
    exact ⟨rfl, Below.refl _ _⟩
  by_cases h7 : a0 = 57422
  · subst h7
    go_enter Try.func33, Try.ntmps33
    go_wp2
    go_ret
    exact ⟨rfl, Below.refl _ _⟩
  by_cases h8 : a0 = 57368
  · subst h8
    go_enter Try.func33, Try.ntmps33
    go_wp2
    go_ret
    exact ⟨rfl, Below.refl _ _⟩
  by_cases h9 : a0 = 57369
  · subst h9
    go_enter Try.func33, Try.ntmps33
    go_wp2
    go_ret
    exact ⟨rfl, Below.refl _ _⟩
  by_cases h10 : a0 = 57370
  · subst h10
    go_enter Try.func33, Try.ntmps33
    go_wp2
    go_ret
    exact ⟨rfl, Below.refl _ _⟩
  by_cases h11 : a0 = 57371
  · subst h11
    go_enter Try.func33, Try.ntmps33
    go_wp2
    go_ret
    exact ⟨rfl, Below.refl _ _⟩
  by_cases h12 : a0 = 57372
  · subst h12
    go_enter Try.func33, Try.ntmps33
    go_wp2
    go_ret
    exact ⟨rfl, Below.refl _ _⟩
  by_cases h13 : a0 = 57373
  · subst h13
    go_enter Try.func33, Try.ntmps33
    go_wp2
    go_ret
    exact ⟨rfl, Below.refl _ _⟩
  by_cases h14 : a0 = 57374
  · subst h14
    go_enter Try.func33, Try.ntmps33
    go_wp2
    go_ret
    exact ⟨rfl, Below.refl _ _⟩
  by_cases h15 : a0 = 57375
  · subst h15
    go_enter Try.func33, Try.ntmps33
    go_wp2
    go_ret
    exact ⟨rfl, Below.refl _ _⟩
  by_cases h16 : a0 = 57363
  · subst h16
    go_enter Try.func33, Try.ntmps33
    go_wp2
    go_ret
    exact ⟨rfl, Below.refl _ _⟩
  have hn : numC a0 = 0 := by
    unfold numC numL
    rw [List.find?_eq_none.2 (by intro x hx; simp only [List.mem_cons, List.not_mem_nil, or_false] at hx; rcases hx with rfl | rfl | rfl | rfl | rfl | rfl | rfl | rfl | rfl | rfl | rfl | rfl | rfl | rfl | rfl | rfl | rfl <;> simp <;> omega)]
  have b0 : (a0 == 57348) = false := beq_eq_false_iff_ne.mpr h0
  have b1 : (a0 == 57425) = false := beq_eq_false_iff_ne.mpr h1
  have b2 : (a0 == 57349) = false := beq_eq_false_iff_ne.mpr h2
  have b3 : (a0 == 57426) = false := beq_eq_false_iff_ne.mpr h3
  have b4 : (a0 == 57354) = false := beq_eq_false_iff_ne.mpr h4
  have b5 : (a0 == 57421) = false := beq_eq_false_iff_ne.mpr h5
  have b6 : (a0 == 57355) = false := beq_eq_false_iff_ne.mpr h6
  have b7 : (a0 == 57422) = false := beq_eq_false_iff_ne.mpr h7
  have b8 : (a0 == 57368) = false := beq_eq_false_iff_ne.mpr h8
  have b9 : (a0 == 57369) = false := beq_eq_false_iff_ne.mpr h9
  have b10 : (a0 == 57370) = false := beq_eq_false_iff_ne.mpr h10
  have b11 : (a0 == 57371) = false := beq_eq_false_iff_ne.mpr h11
  have b12 : (a0 == 57372) = false := beq_eq_false_iff_ne.mpr h12
  have b13 : (a0 == 57373) = false := beq_eq_false_iff_ne.mpr h13
  have b14 : (a0 == 57374) = false := beq_eq_false_iff_ne.mpr h14
  have b15 : (a0 == 57375) = false := beq_eq_false_iff_ne.mpr h15
  have b16 : (a0 == 57363) = false := beq_eq_false_iff_ne.mpr h16
  clear h0 h1 h2 h3 h4 h5 h6 h7 h8 h9 h10 h11 h12 h13 h14 h15 h16
  rw [hn]
  go_enter Try.func33, Try.ntmps33
  go_wp2
  go_ret
  exact ⟨rfl, Below.refl _ _⟩
theorem clavierref09_number.calls (a0 : Int) (r : Int) (w : World) (h : clavierref09_number.f a0 = some r) :
    Calls Try.prog 33 #[.int .i64 a0] w fun e w' => e = .returned (.int .i64 r) ∧ Below w.heap.size w w' := by
  obtain rfl := Option.some.inj h
  exact num_t a0 w
end Go.Proofs.Ytcjokajnlpcdiaa.H
