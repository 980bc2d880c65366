import Derived.Test.YtehnppklfaoikaaHQu0
/- The queue: New, Len, Dropped. -/
namespace Go.Proofs.Ytehnppklfaoikaa.H
open Go Go.RowKit Go.Proofs.YtehnppklfaoikaaW.PrintWords Go.Proofs.YtehnppklfaoikaaW.PrintLast Go.Proofs.YtehnppklfaoikaaW.PrintMore
set_option linter.unusedVariables false
set_option linter.unusedSimpArgs false

/-- A queue: its bytes, its room, how many items had none. -/
structure QS where
  bs : List Int
  room : Int
  dr : Int
/-- At block q of world w lies the queue x; its bytes' row is one of P. -/
def Qu (w : World) (base q : Nat) (P : Nat → Prop) (x : QS) : Prop :=
  base ≤ q ∧ ∃ sl, w.heap[q]? = some (.cells #[sl, .int .i64 x.room, .int .i64 x.dr] 54 (0, 0)) ∧ Kd.R (Kd.int .u8) 5 w base P sl x.bs

theorem Qu.lt {w : World} {base q : Nat} {P : Nat → Prop} {x : QS} (h : Qu w base q P x) : q < w.heap.size := by
  obtain ⟨_, sl, hb, _⟩ := h
  exact blk_lt hb
theorem Qu.below {w w1 : World} {base q : Nat} {P : Nat → Prop} {x : QS} (h : Qu w base q P x) (hb : Below w.heap.size w w1) : Qu w1 base q P x := by
  obtain ⟨h0, sl, h1, h2⟩ := h
  exact ⟨h0, sl, blk_below h1 hb, Kd.R_below h2 hb⟩
theorem Qu.mono {w : World} {base q : Nat} {P P' : Nat → Prop} {x : QS} (h : Qu w base q P x) (hp : ∀ k, P k → P' k) : Qu w base q P' x := by
  obtain ⟨h0, sl, h1, h2⟩ := h
  exact ⟨h0, sl, h1, Kd.R_mono h2 hp⟩
/-- Where its own blocks are kept it is what it was. -/
theorem Qu.kept {w w1 : World} {base q : Nat} {P S : Nat → Prop} {x : QS} (h : Qu w base q P x) (hk : Kept w w1 S) (hq : ¬ S q) (hp : ∀ k, P k → ¬ S k) : Qu w1 base q P x := by
  obtain ⟨h0, sl, h1, h2⟩ := h
  exact ⟨h0, sl, (hk.2 q (blk_lt h1) hq).trans h1, Kd.R_step h2 (fun k hk1 hlt => hk.2 k hlt (hp k hk1))⟩

theorem New_none (room : Int) (w : World) (h : ¬ (64 ≤ room ∧ room ≤ 65536)) :
    Calls Try.prog 11 #[.int .i64 room] w fun e w' => e = .returned (.pointer none) ∧ Below w.heap.size w w' := by
  by_cases h1 : room < 64
  · have c1 : decide (room < 64) = true := decide_eq_true h1
    have HB := Aside0.mk (Below.refl w.heap.size w)
    go_enter Try.func11, Try.ntmps11
    go_wp2
    go_ret
    exact ⟨rfl, by repeat (first | (with_reducible first | exact HB.out | apply below_alloc | apply pw_below_drewN | apply below_drew1) | exact HB.out)⟩
  · have c1 : decide (room < 64) = false := decide_eq_false h1
    have c2 : decide (65536 < room) = true := decide_eq_true (by omega)
    have HB := Aside0.mk (Below.refl w.heap.size w)
    go_enter Try.func11, Try.ntmps11
    go_wp2
    go_ret
    exact ⟨rfl, by repeat (first | (with_reducible first | exact HB.out | apply below_alloc | apply pw_below_drewN | apply below_drew1) | exact HB.out)⟩
theorem New_some (room : Int) (w : World) (P : Nat → Prop) (h : 64 ≤ room ∧ room ≤ 65536) :
    Calls Try.prog 11 #[.int .i64 room] w fun e w' => ∃ q, e = .returned (.pointer (some ⟨q, 0, none⟩)) ∧ Qu w' w.heap.size q P ⟨[], room, 0⟩ ∧ Below w.heap.size w w' := by
  have c1 : decide (room < 64) = false := decide_eq_false (by omega)
  have c2 : decide (65536 < room) = false := decide_eq_false (by omega)
  have HB := Aside0.mk (Below.refl w.heap.size w)
  go_enter Try.func11, Try.ntmps11
  go_wp2
  go_ret
  exact ⟨_, rfl, ⟨Nat.le_refl _, _, blk_new _ _, Kd.R_nil _ _ _ _ _⟩, by repeat (first | (with_reducible first | exact HB.out | apply below_alloc | apply pw_below_drewN | apply below_drew1) | exact HB.out)⟩
theorem Len_none (w : World) :
    Calls Try.prog 17 #[.pointer none] w fun e w' => e = .returned (.int .i64 0) ∧ Below w.heap.size w w' := by
  have HB := Aside0.mk (Below.refl w.heap.size w)
  go_enter Try.func17, Try.ntmps17
  go_wp2
  go_ret
  exact ⟨rfl, by repeat (first | (with_reducible first | exact HB.out | apply below_alloc | apply pw_below_drewN | apply below_drew1) | exact HB.out)⟩
theorem Len_calls (w : World) (base q : Nat) (P : Nat → Prop) (x : QS) (h : Qu w base q P x) :
    Calls Try.prog 17 #[.pointer (some ⟨q, 0, none⟩)] w fun e w' => e = .returned (.int .i64 x.bs.length) ∧ Below w.heap.size w w' := by
  obtain ⟨h0, sl, h1, h2⟩ := h
  obtain ⟨A, c, rfl⟩ := Kd.R_slice h2
  have HB := Aside0.mk (Below.refl w.heap.size w)
  have hc0 := (blk_cell h1 0).trans rfl
  have h1 := Aside0.mk h1
  go_enter Try.func17, Try.ntmps17
  go_wp2
  go_ret
  exact ⟨rfl, by repeat (first | (with_reducible first | exact HB.out | apply below_alloc | apply pw_below_drewN | apply below_drew1) | exact HB.out)⟩
theorem Dropped_none (w : World) :
    Calls Try.prog 18 #[.pointer none] w fun e w' => e = .returned (.int .i64 0) ∧ Below w.heap.size w w' := by
  have HB := Aside0.mk (Below.refl w.heap.size w)
  go_enter Try.func18, Try.ntmps18
  go_wp2
  go_ret
  exact ⟨rfl, by repeat (first | (with_reducible first | exact HB.out | apply below_alloc | apply pw_below_drewN | apply below_drew1) | exact HB.out)⟩
theorem Dropped_calls (w : World) (base q : Nat) (P : Nat → Prop) (x : QS) (h : Qu w base q P x) (hd : -9223372036854775808 ≤ x.dr ∧ x.dr ≤ 9223372036854775807) :
    Calls Try.prog 18 #[.pointer (some ⟨q, 0, none⟩)] w fun e w' => e = .returned (.int .i64 x.dr) ∧ Below w.heap.size w w' := by
  obtain ⟨h0, sl, h1, h2⟩ := h
  have HB := Aside0.mk (Below.refl w.heap.size w)
  have hc0 : w.cell? ⟨q, 2, none⟩ = some (.int .i64 x.dr) := (blk_cell h1 2).trans rfl
  have h1 := Aside0.mk h1
  have hw := IntWalk.wrap64_in _ hd
  go_enter Try.func18, Try.ntmps18
  go_wp2_with (go_at_call 20; refine (Load_calls q _ _ hc0).mono ?_; rintro e w1 ⟨rfl, rfl⟩)
  go_ret
  exact ⟨by simp [hw], by repeat (first | (with_reducible first | exact HB.out | apply below_alloc | apply pw_below_drewN | apply below_drew1) | exact HB.out)⟩

end Go.Proofs.Ytehnppklfaoikaa.H
