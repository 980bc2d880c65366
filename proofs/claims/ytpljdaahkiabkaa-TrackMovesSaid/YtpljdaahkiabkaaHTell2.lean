import Derived.Test.YtpljdaahkiabkaaHTell0
import Derived.Test.YtpljdaahkiabkaaWWords
import Derived.BigRegion
import Derived.Laws.EntriesVeiled
namespace Go.Proofs.Ytpljdaahkiabkaa.H
open Go.RowKit Go.Maps Go.Proofs.YtpljdaahkiabkaaW.PrintWords
set_option linter.unusedVariables false
set_option linter.unusedSimpArgs false
attribute [local go_sem] objAt_alloc objAt_drew objAt_drewN objAt_setCell look_nil look_cons

set_option maxHeartbeats 1600000 in
theorem Tell1002_none (sx sy x y m : Int) (w : World) (hm : mayB 0 4 x y m = true) :
    Calls Try.prog 10 #[.int .i64 1002, .agg #[.int .i64 sx, .int .i64 sy], .agg #[.int .i64 0, .int .i64 4, .int .i64 x, .int .i64 y, .int .i64 m]] w (Nay sx sy w) := by
  have hmm := fun W => run_made (P := Try.prog) 41 .i64 W
  have hput := fun W l n hn a v hf => run_put (P := Try.prog) 41 3 32 .i64 Try.underlying41 Try.underlying3 W l n hn a v hf
  have hlk := fun W hb a => run_look (P := Try.prog) 41 3 32 .i64 Try.underlying41 Try.underlying3 .nilFunc zeroF W (w.heap.size + 1 + 1 + 1 + 1) [(9, .func (.func 15) #[] #[]), (1000, .func (.func 14) #[] #[]), (1002, .func (.func 16) #[] #[.pointer (some ⟨w.heap.size + 1 + 1 + 1, 0, none⟩)]), (1003, .func (.func 17) #[] #[])] hb a false
  have hmf : ∀ (fn : Fn) (first cap : Array Value) (w : World), (Instr.makeFunc fn first cap).run Try.prog w = .ok (.func fn first cap) w := fun _ _ _ _ => rfl
  have hfe : ∀ (fn : Fn) (first cap : Array Value) (w : World), (binOp .eql 32 (.func fn first cap) .nilFunc).run Try.prog w = .ok (.bool false) w := fun _ _ _ _ => by rfl
  have hfn : ∀ (w : World), (binOp .eql 32 .nilFunc .nilFunc).run Try.prog w = .ok (.bool true) w := fun _ => by rfl
  have Hm := Aside0.mk hm
  clear hm
  go_enter Try.func10, Try.ntmps10
  go_wp2
  go_region
  go_wp2_with (first | (go_at_call 12; refine (May_yes Hm.out _).mono ?_; rintro e w1 ⟨rfl, hb1⟩; obtain ⟨hc1, hf1⟩ := bcell hb1; have hz := Aside0.mk (show w.heap.size + 6 ≤ w1.heap.size by (have := hb1.size; simp at this; omega)); obtain ⟨z0, z1, z2, z3, z4, z5⟩ := lt6 hz.out; obtain ⟨y0, y1, y2, y3, y4, y5⟩ := lt7 hz.out; obtain ⟨x0, x1, x2, x3, x4, x5⟩ := lt8 hz.out; have B6 := Aside0.mk (blk_below (g := w.heap.size + 1 + 1) (o := .cells #[.int .i64 0, .int .i64 0] 27 (0, 0)) (objIs (by simp [objAt_drew, objAt_alloc])) hb1); have HB := Aside0.mk (below_step (w := w) (by repeat (first | exact Below.refl _ _ | apply below_alloc | apply below_drew1)) hb1); clear hb1) | go_in)
  refine bodyPost_ret (results_ct rfl _ _ (w.heap.size + 1 + 1) 27 #[.int .i64 sx, .int .i64 sy] (0, 0) _ rfl ?_ Try.underlying27 rfl (by kernel_rfl)) rfl ⟨rfl, ?_⟩
  · (with_reducible repeat (first | refine blk_drewN ?_ _ | refine blk_drew ?_ | refine blk_alloc ?_ _))
    refine blk_put (cs := #[.int .i64 sx, .int .i64 0]) ?_ 1 _ rfl
    refine blk_put (cs := #[.int .i64 0, .int .i64 0]) ?_ 0 _ rfl
    exact B6.out
  · repeat (first | (with_reducible first | exact HB.out | apply below_alloc | apply below_drew1 | refine below_set ?_ (by omega)) | exact HB.out)

set_option maxHeartbeats 1600000 in
theorem Tell1002_same (b x y m : Int) (w : World) (hm : mayB b 4 x y m = true) (h0 : (b != 0) = true) (h0' : (b == 0) = false) :
    Calls Try.prog 10 #[.int .i64 1002, .agg #[.int .i64 x, .int .i64 y], .agg #[.int .i64 b, .int .i64 4, .int .i64 x, .int .i64 y, .int .i64 m]] w (Nay x y w) := by
  have hmm := fun W => run_made (P := Try.prog) 41 .i64 W
  have hput := fun W l n hn a v hf => run_put (P := Try.prog) 41 3 32 .i64 Try.underlying41 Try.underlying3 W l n hn a v hf
  have hlk := fun W hb a => run_look (P := Try.prog) 41 3 32 .i64 Try.underlying41 Try.underlying3 .nilFunc zeroF W (w.heap.size + 1 + 1 + 1 + 1) [(9, .func (.func 15) #[] #[]), (1000, .func (.func 14) #[] #[]), (1002, .func (.func 16) #[] #[.pointer (some ⟨w.heap.size + 1 + 1 + 1, 0, none⟩)]), (1003, .func (.func 17) #[] #[])] hb a false
  have hmf : ∀ (fn : Fn) (first cap : Array Value) (w : World), (Instr.makeFunc fn first cap).run Try.prog w = .ok (.func fn first cap) w := fun _ _ _ _ => rfl
  have hfe : ∀ (fn : Fn) (first cap : Array Value) (w : World), (binOp .eql 32 (.func fn first cap) .nilFunc).run Try.prog w = .ok (.bool false) w := fun _ _ _ _ => by rfl
  have hfn : ∀ (w : World), (binOp .eql 32 .nilFunc .nilFunc).run Try.prog w = .ok (.bool true) w := fun _ => by rfl
  have Hm := Aside0.mk hm
  clear hm
  go_enter Try.func10, Try.ntmps10
  go_wp2
  go_region
  go_wp2_with (first | (go_at_call 12; refine (May_yes Hm.out _).mono ?_; rintro e w1 ⟨rfl, hb1⟩; obtain ⟨hc1, hf1⟩ := bcell hb1; have hz := Aside0.mk (show w.heap.size + 6 ≤ w1.heap.size by (have := hb1.size; simp at this; omega)); obtain ⟨z0, z1, z2, z3, z4, z5⟩ := lt6 hz.out; obtain ⟨y0, y1, y2, y3, y4, y5⟩ := lt7 hz.out; obtain ⟨x0, x1, x2, x3, x4, x5⟩ := lt8 hz.out; have B6 := Aside0.mk (blk_below (g := w.heap.size + 1 + 1) (o := .cells #[.int .i64 0, .int .i64 0] 27 (0, 0)) (objIs (by simp [objAt_drew, objAt_alloc])) hb1); have HB := Aside0.mk (below_step (w := w) (by repeat (first | exact Below.refl _ _ | apply below_alloc | apply below_drew1)) hb1); clear hb1) | go_in)
  refine bodyPost_ret (results_ct rfl _ _ (w.heap.size + 1 + 1) 27 #[.int .i64 x, .int .i64 y] (0, 0) _ rfl ?_ Try.underlying27 rfl (by kernel_rfl)) rfl ⟨rfl, ?_⟩
  · (with_reducible repeat (first | refine blk_drewN ?_ _ | refine blk_drew ?_ | refine blk_alloc ?_ _))
    refine blk_put (cs := #[.int .i64 x, .int .i64 0]) ?_ 1 _ rfl
    refine blk_put (cs := #[.int .i64 0, .int .i64 0]) ?_ 0 _ rfl
    exact B6.out
  · repeat (first | (with_reducible first | exact HB.out | apply below_alloc | apply below_drew1 | refine below_set ?_ (by omega)) | exact HB.out)

set_option maxHeartbeats 1600000 in
theorem Tell1002_col (sx sy b x y m : Int) (w : World) (hm : mayB b 4 x y m = true) (hx : (x == sx) = false) (h0 : (b != 0) = true) (h0' : (b == 0) = false) :
    Calls Try.prog 10 #[.int .i64 1002, .agg #[.int .i64 sx, .int .i64 sy], .agg #[.int .i64 b, .int .i64 4, .int .i64 x, .int .i64 y, .int .i64 m]] w (Yes x y w) := by
  have hmm := fun W => run_made (P := Try.prog) 41 .i64 W
  have hput := fun W l n hn a v hf => run_put (P := Try.prog) 41 3 32 .i64 Try.underlying41 Try.underlying3 W l n hn a v hf
  have hlk := fun W hb a => run_look (P := Try.prog) 41 3 32 .i64 Try.underlying41 Try.underlying3 .nilFunc zeroF W (w.heap.size + 1 + 1 + 1 + 1) [(9, .func (.func 15) #[] #[]), (1000, .func (.func 14) #[] #[]), (1002, .func (.func 16) #[] #[.pointer (some ⟨w.heap.size + 1 + 1 + 1, 0, none⟩)]), (1003, .func (.func 17) #[] #[])] hb a false
  have hmf : ∀ (fn : Fn) (first cap : Array Value) (w : World), (Instr.makeFunc fn first cap).run Try.prog w = .ok (.func fn first cap) w := fun _ _ _ _ => rfl
  have hfe : ∀ (fn : Fn) (first cap : Array Value) (w : World), (binOp .eql 32 (.func fn first cap) .nilFunc).run Try.prog w = .ok (.bool false) w := fun _ _ _ _ => by rfl
  have hfn : ∀ (w : World), (binOp .eql 32 .nilFunc .nilFunc).run Try.prog w = .ok (.bool true) w := fun _ => by rfl
  have Hm := Aside0.mk hm
  clear hm
  go_enter Try.func10, Try.ntmps10
  go_wp2
  go_region
  go_wp2_with (first | (go_at_call 12; refine (May_yes Hm.out _).mono ?_; rintro e w1 ⟨rfl, hb1⟩; obtain ⟨hc1, hf1⟩ := bcell hb1; have hz := Aside0.mk (show w.heap.size + 6 ≤ w1.heap.size by (have := hb1.size; simp at this; omega)); obtain ⟨z0, z1, z2, z3, z4, z5⟩ := lt6 hz.out; obtain ⟨y0, y1, y2, y3, y4, y5⟩ := lt7 hz.out; obtain ⟨x0, x1, x2, x3, x4, x5⟩ := lt8 hz.out; have B6 := Aside0.mk (blk_below (g := w.heap.size + 1 + 1) (o := .cells #[.int .i64 0, .int .i64 0] 27 (0, 0)) (objIs (by simp [objAt_drew, objAt_alloc])) hb1); have HB := Aside0.mk (below_step (w := w) (by repeat (first | exact Below.refl _ _ | apply below_alloc | apply below_drew1)) hb1); clear hb1) | go_in)
  refine bodyPost_ret (results_ct rfl _ _ (w.heap.size + 1 + 1) 27 #[.int .i64 x, .int .i64 y] (0, 0) _ rfl ?_ Try.underlying27 rfl (by kernel_rfl)) rfl ⟨rfl, ?_⟩
  · (with_reducible repeat (first | refine blk_drewN ?_ _ | refine blk_drew ?_ | refine blk_alloc ?_ _))
    refine blk_put (cs := #[.int .i64 x, .int .i64 0]) ?_ 1 _ rfl
    refine blk_put (cs := #[.int .i64 0, .int .i64 0]) ?_ 0 _ rfl
    exact B6.out
  · repeat (first | (with_reducible first | exact HB.out | apply below_alloc | apply below_drew1 | refine below_set ?_ (by omega)) | exact HB.out)

set_option maxHeartbeats 1600000 in
theorem Tell1002_row (sy b x y m : Int) (w : World) (hm : mayB b 4 x y m = true) (hy : (y == sy) = false) (h0 : (b != 0) = true) (h0' : (b == 0) = false) :
    Calls Try.prog 10 #[.int .i64 1002, .agg #[.int .i64 x, .int .i64 sy], .agg #[.int .i64 b, .int .i64 4, .int .i64 x, .int .i64 y, .int .i64 m]] w (Yes x y w) := by
  have hmm := fun W => run_made (P := Try.prog) 41 .i64 W
  have hput := fun W l n hn a v hf => run_put (P := Try.prog) 41 3 32 .i64 Try.underlying41 Try.underlying3 W l n hn a v hf
  have hlk := fun W hb a => run_look (P := Try.prog) 41 3 32 .i64 Try.underlying41 Try.underlying3 .nilFunc zeroF W (w.heap.size + 1 + 1 + 1 + 1) [(9, .func (.func 15) #[] #[]), (1000, .func (.func 14) #[] #[]), (1002, .func (.func 16) #[] #[.pointer (some ⟨w.heap.size + 1 + 1 + 1, 0, none⟩)]), (1003, .func (.func 17) #[] #[])] hb a false
  have hmf : ∀ (fn : Fn) (first cap : Array Value) (w : World), (Instr.makeFunc fn first cap).run Try.prog w = .ok (.func fn first cap) w := fun _ _ _ _ => rfl
  have hfe : ∀ (fn : Fn) (first cap : Array Value) (w : World), (binOp .eql 32 (.func fn first cap) .nilFunc).run Try.prog w = .ok (.bool false) w := fun _ _ _ _ => by rfl
  have hfn : ∀ (w : World), (binOp .eql 32 .nilFunc .nilFunc).run Try.prog w = .ok (.bool true) w := fun _ => by rfl
  have Hm := Aside0.mk hm
  clear hm
  go_enter Try.func10, Try.ntmps10
  go_wp2
  go_region
  go_wp2_with (first | (go_at_call 12; refine (May_yes Hm.out _).mono ?_; rintro e w1 ⟨rfl, hb1⟩; obtain ⟨hc1, hf1⟩ := bcell hb1; have hz := Aside0.mk (show w.heap.size + 6 ≤ w1.heap.size by (have := hb1.size; simp at this; omega)); obtain ⟨z0, z1, z2, z3, z4, z5⟩ := lt6 hz.out; obtain ⟨y0, y1, y2, y3, y4, y5⟩ := lt7 hz.out; obtain ⟨x0, x1, x2, x3, x4, x5⟩ := lt8 hz.out; have B6 := Aside0.mk (blk_below (g := w.heap.size + 1 + 1) (o := .cells #[.int .i64 0, .int .i64 0] 27 (0, 0)) (objIs (by simp [objAt_drew, objAt_alloc])) hb1); have HB := Aside0.mk (below_step (w := w) (by repeat (first | exact Below.refl _ _ | apply below_alloc | apply below_drew1)) hb1); clear hb1) | go_in)
  refine bodyPost_ret (results_ct rfl _ _ (w.heap.size + 1 + 1) 27 #[.int .i64 x, .int .i64 y] (0, 0) _ rfl ?_ Try.underlying27 rfl (by kernel_rfl)) rfl ⟨rfl, ?_⟩
  · (with_reducible repeat (first | refine blk_drewN ?_ _ | refine blk_drew ?_ | refine blk_alloc ?_ _))
    refine blk_put (cs := #[.int .i64 x, .int .i64 0]) ?_ 1 _ rfl
    refine blk_put (cs := #[.int .i64 0, .int .i64 0]) ?_ 0 _ rfl
    exact B6.out
  · repeat (first | (with_reducible first | exact HB.out | apply below_alloc | apply below_drew1 | refine below_set ?_ (by omega)) | exact HB.out)

set_option maxHeartbeats 1600000 in
theorem Tell1003_yes (sx sy b t x y m : Int) (w : World) (hm : mayB b t x y m = true) (h4 : (t != 4) = true) (h4' : (t == 4) = false) :
    Calls Try.prog 10 #[.int .i64 1003, .agg #[.int .i64 sx, .int .i64 sy], .agg #[.int .i64 b, .int .i64 t, .int .i64 x, .int .i64 y, .int .i64 m]] w (Yes x y w) := by
  have hmm := fun W => run_made (P := Try.prog) 41 .i64 W
  have hput := fun W l n hn a v hf => run_put (P := Try.prog) 41 3 32 .i64 Try.underlying41 Try.underlying3 W l n hn a v hf
  have hlk := fun W hb a => run_look (P := Try.prog) 41 3 32 .i64 Try.underlying41 Try.underlying3 .nilFunc zeroF W (w.heap.size + 1 + 1 + 1 + 1) [(9, .func (.func 15) #[] #[]), (1000, .func (.func 14) #[] #[]), (1002, .func (.func 16) #[] #[.pointer (some ⟨w.heap.size + 1 + 1 + 1, 0, none⟩)]), (1003, .func (.func 17) #[] #[])] hb a false
  have hmf : ∀ (fn : Fn) (first cap : Array Value) (w : World), (Instr.makeFunc fn first cap).run Try.prog w = .ok (.func fn first cap) w := fun _ _ _ _ => rfl
  have hfe : ∀ (fn : Fn) (first cap : Array Value) (w : World), (binOp .eql 32 (.func fn first cap) .nilFunc).run Try.prog w = .ok (.bool false) w := fun _ _ _ _ => by rfl
  have hfn : ∀ (w : World), (binOp .eql 32 .nilFunc .nilFunc).run Try.prog w = .ok (.bool true) w := fun _ => by rfl
  have Hm := Aside0.mk hm
  clear hm
  go_enter Try.func10, Try.ntmps10
  go_wp2
  go_region
  go_wp2_with (first | (go_at_call 12; refine (May_yes Hm.out _).mono ?_; rintro e w1 ⟨rfl, hb1⟩; obtain ⟨hc1, hf1⟩ := bcell hb1; have hz := Aside0.mk (show w.heap.size + 6 ≤ w1.heap.size by (have := hb1.size; simp at this; omega)); obtain ⟨z0, z1, z2, z3, z4, z5⟩ := lt6 hz.out; obtain ⟨y0, y1, y2, y3, y4, y5⟩ := lt7 hz.out; obtain ⟨x0, x1, x2, x3, x4, x5⟩ := lt8 hz.out; have B6 := Aside0.mk (blk_below (g := w.heap.size + 1 + 1) (o := .cells #[.int .i64 0, .int .i64 0] 27 (0, 0)) (objIs (by simp [objAt_drew, objAt_alloc])) hb1); have HB := Aside0.mk (below_step (w := w) (by repeat (first | exact Below.refl _ _ | apply below_alloc | apply below_drew1)) hb1); clear hb1) | go_in)
  refine bodyPost_ret (results_ct rfl _ _ (w.heap.size + 1 + 1) 27 #[.int .i64 x, .int .i64 y] (0, 0) _ rfl ?_ Try.underlying27 rfl (by kernel_rfl)) rfl ⟨rfl, ?_⟩
  · (with_reducible repeat (first | refine blk_drewN ?_ _ | refine blk_drew ?_ | refine blk_alloc ?_ _))
    refine blk_put (cs := #[.int .i64 x, .int .i64 0]) ?_ 1 _ rfl
    refine blk_put (cs := #[.int .i64 0, .int .i64 0]) ?_ 0 _ rfl
    exact B6.out
  · repeat (first | (with_reducible first | exact HB.out | apply below_alloc | apply below_drew1 | refine below_set ?_ (by omega)) | exact HB.out)

set_option maxHeartbeats 1600000 in
theorem Tell1003_same (b x y m : Int) (w : World) (hm : mayB b 4 x y m = true) :
    Calls Try.prog 10 #[.int .i64 1003, .agg #[.int .i64 x, .int .i64 y], .agg #[.int .i64 b, .int .i64 4, .int .i64 x, .int .i64 y, .int .i64 m]] w (Nay x y w) := by
  have hmm := fun W => run_made (P := Try.prog) 41 .i64 W
  have hput := fun W l n hn a v hf => run_put (P := Try.prog) 41 3 32 .i64 Try.underlying41 Try.underlying3 W l n hn a v hf
  have hlk := fun W hb a => run_look (P := Try.prog) 41 3 32 .i64 Try.underlying41 Try.underlying3 .nilFunc zeroF W (w.heap.size + 1 + 1 + 1 + 1) [(9, .func (.func 15) #[] #[]), (1000, .func (.func 14) #[] #[]), (1002, .func (.func 16) #[] #[.pointer (some ⟨w.heap.size + 1 + 1 + 1, 0, none⟩)]), (1003, .func (.func 17) #[] #[])] hb a false
  have hmf : ∀ (fn : Fn) (first cap : Array Value) (w : World), (Instr.makeFunc fn first cap).run Try.prog w = .ok (.func fn first cap) w := fun _ _ _ _ => rfl
  have hfe : ∀ (fn : Fn) (first cap : Array Value) (w : World), (binOp .eql 32 (.func fn first cap) .nilFunc).run Try.prog w = .ok (.bool false) w := fun _ _ _ _ => by rfl
  have hfn : ∀ (w : World), (binOp .eql 32 .nilFunc .nilFunc).run Try.prog w = .ok (.bool true) w := fun _ => by rfl
  have Hm := Aside0.mk hm
  clear hm
  go_enter Try.func10, Try.ntmps10
  go_wp2
  go_region
  go_wp2_with (first | (go_at_call 12; refine (May_yes Hm.out _).mono ?_; rintro e w1 ⟨rfl, hb1⟩; obtain ⟨hc1, hf1⟩ := bcell hb1; have hz := Aside0.mk (show w.heap.size + 6 ≤ w1.heap.size by (have := hb1.size; simp at this; omega)); obtain ⟨z0, z1, z2, z3, z4, z5⟩ := lt6 hz.out; obtain ⟨y0, y1, y2, y3, y4, y5⟩ := lt7 hz.out; obtain ⟨x0, x1, x2, x3, x4, x5⟩ := lt8 hz.out; have B6 := Aside0.mk (blk_below (g := w.heap.size + 1 + 1) (o := .cells #[.int .i64 0, .int .i64 0] 27 (0, 0)) (objIs (by simp [objAt_drew, objAt_alloc])) hb1); have HB := Aside0.mk (below_step (w := w) (by repeat (first | exact Below.refl _ _ | apply below_alloc | apply below_drew1)) hb1); clear hb1) | go_in)
  refine bodyPost_ret (results_ct rfl _ _ (w.heap.size + 1 + 1) 27 #[.int .i64 x, .int .i64 y] (0, 0) _ rfl ?_ Try.underlying27 rfl (by kernel_rfl)) rfl ⟨rfl, ?_⟩
  · (with_reducible repeat (first | refine blk_drewN ?_ _ | refine blk_drew ?_ | refine blk_alloc ?_ _))
    refine blk_put (cs := #[.int .i64 x, .int .i64 0]) ?_ 1 _ rfl
    refine blk_put (cs := #[.int .i64 0, .int .i64 0]) ?_ 0 _ rfl
    exact B6.out
  · repeat (first | (with_reducible first | exact HB.out | apply below_alloc | apply below_drew1 | refine below_set ?_ (by omega)) | exact HB.out)

set_option maxHeartbeats 1600000 in
theorem Tell1003_col (sx sy b x y m : Int) (w : World) (hm : mayB b 4 x y m = true) (hx : (x == sx) = false) :
    Calls Try.prog 10 #[.int .i64 1003, .agg #[.int .i64 sx, .int .i64 sy], .agg #[.int .i64 b, .int .i64 4, .int .i64 x, .int .i64 y, .int .i64 m]] w (Yes x y w) := by
  have hmm := fun W => run_made (P := Try.prog) 41 .i64 W
  have hput := fun W l n hn a v hf => run_put (P := Try.prog) 41 3 32 .i64 Try.underlying41 Try.underlying3 W l n hn a v hf
  have hlk := fun W hb a => run_look (P := Try.prog) 41 3 32 .i64 Try.underlying41 Try.underlying3 .nilFunc zeroF W (w.heap.size + 1 + 1 + 1 + 1) [(9, .func (.func 15) #[] #[]), (1000, .func (.func 14) #[] #[]), (1002, .func (.func 16) #[] #[.pointer (some ⟨w.heap.size + 1 + 1 + 1, 0, none⟩)]), (1003, .func (.func 17) #[] #[])] hb a false
  have hmf : ∀ (fn : Fn) (first cap : Array Value) (w : World), (Instr.makeFunc fn first cap).run Try.prog w = .ok (.func fn first cap) w := fun _ _ _ _ => rfl
  have hfe : ∀ (fn : Fn) (first cap : Array Value) (w : World), (binOp .eql 32 (.func fn first cap) .nilFunc).run Try.prog w = .ok (.bool false) w := fun _ _ _ _ => by rfl
  have hfn : ∀ (w : World), (binOp .eql 32 .nilFunc .nilFunc).run Try.prog w = .ok (.bool true) w := fun _ => by rfl
  have Hm := Aside0.mk hm
  clear hm
  go_enter Try.func10, Try.ntmps10
  go_wp2
  go_region
  go_wp2_with (first | (go_at_call 12; refine (May_yes Hm.out _).mono ?_; rintro e w1 ⟨rfl, hb1⟩; obtain ⟨hc1, hf1⟩ := bcell hb1; have hz := Aside0.mk (show w.heap.size + 6 ≤ w1.heap.size by (have := hb1.size; simp at this; omega)); obtain ⟨z0, z1, z2, z3, z4, z5⟩ := lt6 hz.out; obtain ⟨y0, y1, y2, y3, y4, y5⟩ := lt7 hz.out; obtain ⟨x0, x1, x2, x3, x4, x5⟩ := lt8 hz.out; have B6 := Aside0.mk (blk_below (g := w.heap.size + 1 + 1) (o := .cells #[.int .i64 0, .int .i64 0] 27 (0, 0)) (objIs (by simp [objAt_drew, objAt_alloc])) hb1); have HB := Aside0.mk (below_step (w := w) (by repeat (first | exact Below.refl _ _ | apply below_alloc | apply below_drew1)) hb1); clear hb1) | go_in)
  refine bodyPost_ret (results_ct rfl _ _ (w.heap.size + 1 + 1) 27 #[.int .i64 x, .int .i64 y] (0, 0) _ rfl ?_ Try.underlying27 rfl (by kernel_rfl)) rfl ⟨rfl, ?_⟩
  · (with_reducible repeat (first | refine blk_drewN ?_ _ | refine blk_drew ?_ | refine blk_alloc ?_ _))
    refine blk_put (cs := #[.int .i64 x, .int .i64 0]) ?_ 1 _ rfl
    refine blk_put (cs := #[.int .i64 0, .int .i64 0]) ?_ 0 _ rfl
    exact B6.out
  · repeat (first | (with_reducible first | exact HB.out | apply below_alloc | apply below_drew1 | refine below_set ?_ (by omega)) | exact HB.out)

set_option maxHeartbeats 1600000 in
theorem Tell1003_row (sy b x y m : Int) (w : World) (hm : mayB b 4 x y m = true) (hy : (y == sy) = false) :
    Calls Try.prog 10 #[.int .i64 1003, .agg #[.int .i64 x, .int .i64 sy], .agg #[.int .i64 b, .int .i64 4, .int .i64 x, .int .i64 y, .int .i64 m]] w (Yes x y w) := by
  have hmm := fun W => run_made (P := Try.prog) 41 .i64 W
  have hput := fun W l n hn a v hf => run_put (P := Try.prog) 41 3 32 .i64 Try.underlying41 Try.underlying3 W l n hn a v hf
  have hlk := fun W hb a => run_look (P := Try.prog) 41 3 32 .i64 Try.underlying41 Try.underlying3 .nilFunc zeroF W (w.heap.size + 1 + 1 + 1 + 1) [(9, .func (.func 15) #[] #[]), (1000, .func (.func 14) #[] #[]), (1002, .func (.func 16) #[] #[.pointer (some ⟨w.heap.size + 1 + 1 + 1, 0, none⟩)]), (1003, .func (.func 17) #[] #[])] hb a false
  have hmf : ∀ (fn : Fn) (first cap : Array Value) (w : World), (Instr.makeFunc fn first cap).run Try.prog w = .ok (.func fn first cap) w := fun _ _ _ _ => rfl
  have hfe : ∀ (fn : Fn) (first cap : Array Value) (w : World), (binOp .eql 32 (.func fn first cap) .nilFunc).run Try.prog w = .ok (.bool false) w := fun _ _ _ _ => by rfl
  have hfn : ∀ (w : World), (binOp .eql 32 .nilFunc .nilFunc).run Try.prog w = .ok (.bool true) w := fun _ => by rfl
  have Hm := Aside0.mk hm
  clear hm
  go_enter Try.func10, Try.ntmps10
  go_wp2
  go_region
  go_wp2_with (first | (go_at_call 12; refine (May_yes Hm.out _).mono ?_; rintro e w1 ⟨rfl, hb1⟩; obtain ⟨hc1, hf1⟩ := bcell hb1; have hz := Aside0.mk (show w.heap.size + 6 ≤ w1.heap.size by (have := hb1.size; simp at this; omega)); obtain ⟨z0, z1, z2, z3, z4, z5⟩ := lt6 hz.out; obtain ⟨y0, y1, y2, y3, y4, y5⟩ := lt7 hz.out; obtain ⟨x0, x1, x2, x3, x4, x5⟩ := lt8 hz.out; have B6 := Aside0.mk (blk_below (g := w.heap.size + 1 + 1) (o := .cells #[.int .i64 0, .int .i64 0] 27 (0, 0)) (objIs (by simp [objAt_drew, objAt_alloc])) hb1); have HB := Aside0.mk (below_step (w := w) (by repeat (first | exact Below.refl _ _ | apply below_alloc | apply below_drew1)) hb1); clear hb1) | go_in)
  refine bodyPost_ret (results_ct rfl _ _ (w.heap.size + 1 + 1) 27 #[.int .i64 x, .int .i64 y] (0, 0) _ rfl ?_ Try.underlying27 rfl (by kernel_rfl)) rfl ⟨rfl, ?_⟩
  · (with_reducible repeat (first | refine blk_drewN ?_ _ | refine blk_drew ?_ | refine blk_alloc ?_ _))
    refine blk_put (cs := #[.int .i64 x, .int .i64 0]) ?_ 1 _ rfl
    refine blk_put (cs := #[.int .i64 0, .int .i64 0]) ?_ 0 _ rfl
    exact B6.out
  · repeat (first | (with_reducible first | exact HB.out | apply below_alloc | apply below_drew1 | refine below_set ?_ (by omega)) | exact HB.out)

set_option maxHeartbeats 1600000 in
theorem Tell_other (mode sx sy b t x y m : Int) (w : World) (n1 : ¬ mode = 9) (n2 : ¬ mode = 1000) (n3 : ¬ mode = 1002) (n4 : ¬ mode = 1003) :
    Calls Try.prog 10 #[.int .i64 mode, .agg #[.int .i64 sx, .int .i64 sy], .agg #[.int .i64 b, .int .i64 t, .int .i64 x, .int .i64 y, .int .i64 m]] w (Nay sx sy w) := by
  have hmm := fun W => run_made (P := Try.prog) 41 .i64 W
  have hput := fun W l n hn a v hf => run_put (P := Try.prog) 41 3 32 .i64 Try.underlying41 Try.underlying3 W l n hn a v hf
  have hlk := fun W hb a => run_look (P := Try.prog) 41 3 32 .i64 Try.underlying41 Try.underlying3 .nilFunc zeroF W (w.heap.size + 1 + 1 + 1 + 1) [(9, .func (.func 15) #[] #[]), (1000, .func (.func 14) #[] #[]), (1002, .func (.func 16) #[] #[.pointer (some ⟨w.heap.size + 1 + 1 + 1, 0, none⟩)]), (1003, .func (.func 17) #[] #[])] hb a false
  have hmf : ∀ (fn : Fn) (first cap : Array Value) (w : World), (Instr.makeFunc fn first cap).run Try.prog w = .ok (.func fn first cap) w := fun _ _ _ _ => rfl
  have hfe : ∀ (fn : Fn) (first cap : Array Value) (w : World), (binOp .eql 32 (.func fn first cap) .nilFunc).run Try.prog w = .ok (.bool false) w := fun _ _ _ _ => by rfl
  have hfn : ∀ (w : World), (binOp .eql 32 .nilFunc .nilFunc).run Try.prog w = .ok (.bool true) w := fun _ => by rfl
  go_enter Try.func10, Try.ntmps10
  go_wp2
  go_region
  go_wp2_with (first | go_in)
  refine bodyPost_ret (results_ct rfl _ _ (w.heap.size + 1 + 1) 27 #[.int .i64 sx, .int .i64 sy] (0, 0) _ rfl (objIs (by simp [objAt_drew, objAt_alloc, objAt_setCell])) Try.underlying27 rfl (by kernel_rfl)) rfl ⟨rfl, ?_⟩
  repeat (first | exact Below.refl _ _ | apply below_alloc | apply below_drew1)

end Go.Proofs.Ytpljdaahkiabkaa.H
