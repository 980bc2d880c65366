import Derived.Test.YtlnnjdjdpfifiaaHClone
import Derived.Test.YtlnnjdjdpfifiaaHMap
import Derived.Laws.EntriesVeiled
import Derived.BigRegion
import Derived.Outline
import Derived.Deep.RegionWith
/- stack.Put: the flags that are, changed by how; what is kept is a row of the call's own. -/
namespace Go.Proofs.Ytlnnjdjdpfifiaa.H
open Go.RowKit Go.Maps Go.Proofs.YtlnnjdjdpfifiaaW.PrintWords Go.Proofs.YtlnnjdjdpfifiaaW.PrintLast Go.Proofs.YtlnnjdjdpfifiaaW.PrintMore
set_option linter.unusedVariables false
set_option linter.unusedSimpArgs false
attribute [local go_sem] max2_int min2_int max_two min_two
attribute [local go_sem] objAt_alloc objAt_drew objAt_drewN objAt_setCell look_nil look_cons

def fl (a : Int) : Int := Go.bits .and .i64 (mx a 0) 31
theorem fl_0 {a : Int} (h : a ≤ 0) : Ending.returned (.int .i64 (Go.bits .and .i64 0 31)) = .returned (.int .i64 (fl a)) := by
  have : mx a 0 = 0 := by unfold mx; omega
  rw [fl, this]
theorem fl_a {a : Int} (h : 0 ≤ a) : Ending.returned (.int .i64 (Go.bits .and .i64 a 31)) = .returned (.int .i64 (fl a)) := by
  have : mx a 0 = a := by unfold mx; omega
  rw [fl, this]
theorem flagsOf_c (a : Int) (w : World) : Calls Try.prog 24 #[.int .i64 a] w fun e w' => e = .returned (.int .i64 (fl a)) ∧ w' = w := by
  go_enter Try.func24, Try.ntmps24
  go_wp2
  all_goals go_ret
  all_goals refine ⟨?_, rfl⟩
  all_goals first | exact fl_0 (by omega) | exact fl_a (by omega)
theorem put1_c (a b : Int) (w : World) : Calls Try.prog 25 #[.int .i64 a, .int .i64 b] w fun e w' => e = .returned (.int .i64 b) ∧ w' = w := by
  go_enter Try.func25, Try.ntmps25
  go_wp2
  go_ret
  exact ⟨rfl, rfl⟩
theorem put2_c (a b : Int) (w : World) : Calls Try.prog 26 #[.int .i64 a, .int .i64 b] w fun e w' => e = .returned (.int .i64 (Go.bits .or .i64 a b)) ∧ w' = w := by
  go_enter Try.func26, Try.ntmps26
  go_wp2
  go_ret
  exact ⟨rfl, rfl⟩
theorem put3_c (a b : Int) (w : World) : Calls Try.prog 27 #[.int .i64 a, .int .i64 b] w fun e w' => e = .returned (.int .i64 (Go.bits .andNot .i64 a b)) ∧ w' = w := by
  go_enter Try.func27, Try.ntmps27
  go_wp2
  go_ret
  exact ⟨rfl, rfl⟩

/-- What is put, by how. -/
def putNow (now f how : Int) : Int := if how = 1 then fl f else if how = 2 then Go.bits .or .i64 now (fl f) else if how = 3 then Go.bits .andNot .i64 now (fl f) else now
def PutPost (l : List Int) (now : Int) (w : World) (e : Ending) (w' : World) : Prop := ∃ v1_ : Value, e = .returned (.agg #[.int .i64 now, v1_]) ∧ Kd.R (Kd.int .i64) 3 w' w.heap.size (fun _ => True) v1_ l ∧ Below w.heap.size w w'
theorem zeroP (W : World) : (zeroValue 40).run Try.prog W = .ok .nilFunc W := by kernel_rfl

set_option maxHeartbeats 2000000 in
theorem put_1 (a0 : Int) (A0 : Option Addr) (c0 : Nat) (l0 : List Int) (a1 : Int) (w : World) (hr0 : Kd.C (Kd.int .i64) w A0 l0.length l0) (hc0 : l0.length ≤ c0) (hl : l0.length < 17592186044416) :
    Calls Try.prog 17 #[.agg #[.int .i64 a0, .slice A0 l0.length c0], .int .i64 a1, .int .i64 1] w (PutPost l0 (fl a1) w) := by
  have HR := Aside0.mk hr0
  have HC := Aside0.mk hc0
  have HL := Aside0.mk (show slices_Clone_int_int.f l0 = some l0 from if_pos hl)
  clear hr0 hc0 hl
  have hmm := fun W => run_made (P := Try.prog) 45 .i64 W
  have hput := fun W l n hn a v hf => run_put (P := Try.prog) 45 3 40 .i64 Try.underlying45 Try.underlying3 W l n hn a v hf
  have hfe : ∀ (fn : Fn) (first cap : Array Value) (w : World), (binOp .neq 40 (.func fn first cap) .nilFunc).run Try.prog w = .ok (.bool true) w := fun _ _ _ _ => by rfl
  have hfn : ∀ (w : World), (binOp .neq 40 .nilFunc .nilFunc).run Try.prog w = .ok (.bool false) w := fun _ => by rfl
  have HB := Aside0.mk (Below.refl w.heap.size w)
  go_enter Try.func17, Try.ntmps17
  go_wp2_with (first | ((with_reducible refine gate_dst (N := 3) rfl ?_); refine box_event ?hg (N := 3) ?hd (cs := #[.int .i64 a0, .slice A0 l0.length c0]) (t := 27) ?hr ?_; (case hd => rfl); (case hg => rfl); (case hr => first | (go_simp; done) | (go_simp; rfl)); intro g1 hg w1 hbox hb; have B1 := Aside0.mk hbox; have G1 := Aside0.mk (show w.heap.size ≤ g1 by rw [hg]; exact Nat.le_refl _); clear HB; have HB := Aside0.mk hb; clear hbox hb hg) | ((with_reducible refine gate_dst (N := 6) rfl ?_); refine box_event ?hg (N := 6) ?hd (cs := #[.int .i64 0, .slice none 0 0]) (t := 27) ?hr ?_; (case hd => rfl); (case hg => rfl); (case hr => first | (go_simp; done) | (go_simp; rfl)); intro g2 hg w2 hbox hb; have N12 := Aside0.mk (show g1 ≠ g2 by rw [hg]; exact Nat.ne_of_lt (blk_lt B1.out)); have B1' := Aside0.mk (blk_below B1.out hb); clear B1; have B1 := B1'; clear B1'; have B2 := Aside0.mk hbox; have G2 := Aside0.mk (show w.heap.size ≤ g2 by rw [hg]; exact HB.out.size); have HB' := Aside0.mk (below_step HB.out hb); clear HB; have HB := HB'; clear HB' hbox hb hg; have hcz := (blk_cell B1.out 1).trans rfl) | (go_at_call 23; (with_reducible refine (slices_Clone_int_int.calls A0 c0 l0 l0 _ (Kd.C_below HR.out HB.out) HC.out HL.out).mono ?_); rintro e w3 ⟨v3, rfl, hv3, hb⟩; obtain ⟨A3, c3, rfl⟩ := Kd.R_slice hv3; have HO := Aside0.mk (Kd.R_lower hv3 HB.out.size); have B1' := Aside0.mk (blk_below B1.out hb); clear B1; have B1 := B1'; clear B1'; have B2' := Aside0.mk (blk_below B2.out hb); clear B2; have B2 := B2'; clear B2'; have HB' := Aside0.mk (below_step HB.out hb); clear HB; have HB := HB'; clear HB' hv3 hb; clear hcz; have hcz := (blk_cell B1.out 1).trans rfl; have hcz0 := (blk_cell B1.out 0).trans rfl; have hfz := blk_frozen B1.out 1; have hfz0 := blk_frozen B1.out 0; have hlt1 := blk_lt B1.out; have hlt2 := blk_lt B2.out; have hcy0 := (blk_cell B2.out 0).trans rfl; have hcy1 := (blk_cell B2.out 1).trans rfl; have hfy0 := blk_frozen B2.out 0; have hfy1 := blk_frozen B2.out 1; have hn12 := N12.out; have hn21 := N12.out.symm; have hlk := fun W hb a => run_look (P := Try.prog) 45 3 40 .i64 Try.underlying45 Try.underlying3 .nilFunc zeroP W w3.heap.size [(1, .func (.func 25) #[] #[]), (2, .func (.func 26) #[] #[]), (3, .func (.func 27) #[] #[])] hb a false))
  go_region_with (first | (go_at_call 24; refine (flagsOf_c _ _).mono ?_; rintro e w' ⟨rfl, rfl⟩) | (go_at_call 25; refine (put1_c _ _ _).mono ?_; rintro e w' ⟨rfl, rfl⟩))
  all_goals go_wp2
  all_goals
    refine bodyPost_ret (results_cell_row rfl _ _ g2 27 #[.int .i64 (fl a1), .slice A3 l0.length c3] (0, 0) _ rfl ?_ Try.underlying27 rfl (by kernel_rfl)) rfl ⟨_, rfl, ?_, ?_⟩
    · (with_reducible repeat (first | refine blk_drewN ?_ _ | refine blk_drew ?_ | refine blk_alloc ?_ _))
      refine blk_put (cs := #[.int .i64 (fl a1), .slice none 0 0]) ?_ 1 _ rfl
      refine blk_put (cs := #[.int .i64 0, .slice none 0 0]) ?_ 0 _ rfl
      repeat (refine blk_far ?_ N12.out.symm _)
      exact B2.out
    · (with_reducible repeat (first | apply Kd.R_alloc | apply Kd.R_drewN | apply Kd.R_drew))
      have HO' := Kd.R_types (Kd.R_types HO.out B1.out (by decide)) B2.out (by decide)
      refine Kd.R_mono (ok := fun k => (True ∧ k ≠ g1) ∧ k ≠ g2) ?_ (fun _ _ => trivial)
      refine Kd.R_far ?_ (fun _ hk => hk.2) _
      refine Kd.R_far ?_ (fun _ hk => hk.2) _
      refine Kd.R_far ?_ (fun _ hk => hk.1.2) _
      refine Kd.R_far ?_ (fun _ hk => hk.1.2) _
      exact HO'
    · repeat (first | (with_reducible first | exact HB.out | apply below_alloc | apply below_drew1 | refine below_set ?_ G1.out | refine below_set ?_ G2.out) | exact HB.out)

set_option maxHeartbeats 2000000 in
theorem put_2 (a0 : Int) (A0 : Option Addr) (c0 : Nat) (l0 : List Int) (a1 : Int) (w : World) (hr0 : Kd.C (Kd.int .i64) w A0 l0.length l0) (hc0 : l0.length ≤ c0) (hl : l0.length < 17592186044416) :
    Calls Try.prog 17 #[.agg #[.int .i64 a0, .slice A0 l0.length c0], .int .i64 a1, .int .i64 2] w (PutPost l0 (Go.bits .or .i64 a0 (fl a1)) w) := by
  have HR := Aside0.mk hr0
  have HC := Aside0.mk hc0
  have HL := Aside0.mk (show slices_Clone_int_int.f l0 = some l0 from if_pos hl)
  clear hr0 hc0 hl
  have hmm := fun W => run_made (P := Try.prog) 45 .i64 W
  have hput := fun W l n hn a v hf => run_put (P := Try.prog) 45 3 40 .i64 Try.underlying45 Try.underlying3 W l n hn a v hf
  have hfe : ∀ (fn : Fn) (first cap : Array Value) (w : World), (binOp .neq 40 (.func fn first cap) .nilFunc).run Try.prog w = .ok (.bool true) w := fun _ _ _ _ => by rfl
  have hfn : ∀ (w : World), (binOp .neq 40 .nilFunc .nilFunc).run Try.prog w = .ok (.bool false) w := fun _ => by rfl
  have HB := Aside0.mk (Below.refl w.heap.size w)
  go_enter Try.func17, Try.ntmps17
  go_wp2_with (first | ((with_reducible refine gate_dst (N := 3) rfl ?_); refine box_event ?hg (N := 3) ?hd (cs := #[.int .i64 a0, .slice A0 l0.length c0]) (t := 27) ?hr ?_; (case hd => rfl); (case hg => rfl); (case hr => first | (go_simp; done) | (go_simp; rfl)); intro g1 hg w1 hbox hb; have B1 := Aside0.mk hbox; have G1 := Aside0.mk (show w.heap.size ≤ g1 by rw [hg]; exact Nat.le_refl _); clear HB; have HB := Aside0.mk hb; clear hbox hb hg) | ((with_reducible refine gate_dst (N := 6) rfl ?_); refine box_event ?hg (N := 6) ?hd (cs := #[.int .i64 0, .slice none 0 0]) (t := 27) ?hr ?_; (case hd => rfl); (case hg => rfl); (case hr => first | (go_simp; done) | (go_simp; rfl)); intro g2 hg w2 hbox hb; have N12 := Aside0.mk (show g1 ≠ g2 by rw [hg]; exact Nat.ne_of_lt (blk_lt B1.out)); have B1' := Aside0.mk (blk_below B1.out hb); clear B1; have B1 := B1'; clear B1'; have B2 := Aside0.mk hbox; have G2 := Aside0.mk (show w.heap.size ≤ g2 by rw [hg]; exact HB.out.size); have HB' := Aside0.mk (below_step HB.out hb); clear HB; have HB := HB'; clear HB' hbox hb hg; have hcz := (blk_cell B1.out 1).trans rfl) | (go_at_call 23; (with_reducible refine (slices_Clone_int_int.calls A0 c0 l0 l0 _ (Kd.C_below HR.out HB.out) HC.out HL.out).mono ?_); rintro e w3 ⟨v3, rfl, hv3, hb⟩; obtain ⟨A3, c3, rfl⟩ := Kd.R_slice hv3; have HO := Aside0.mk (Kd.R_lower hv3 HB.out.size); have B1' := Aside0.mk (blk_below B1.out hb); clear B1; have B1 := B1'; clear B1'; have B2' := Aside0.mk (blk_below B2.out hb); clear B2; have B2 := B2'; clear B2'; have HB' := Aside0.mk (below_step HB.out hb); clear HB; have HB := HB'; clear HB' hv3 hb; clear hcz; have hcz := (blk_cell B1.out 1).trans rfl; have hcz0 := (blk_cell B1.out 0).trans rfl; have hfz := blk_frozen B1.out 1; have hfz0 := blk_frozen B1.out 0; have hlt1 := blk_lt B1.out; have hlt2 := blk_lt B2.out; have hcy0 := (blk_cell B2.out 0).trans rfl; have hcy1 := (blk_cell B2.out 1).trans rfl; have hfy0 := blk_frozen B2.out 0; have hfy1 := blk_frozen B2.out 1; have hn12 := N12.out; have hn21 := N12.out.symm; have hlk := fun W hb a => run_look (P := Try.prog) 45 3 40 .i64 Try.underlying45 Try.underlying3 .nilFunc zeroP W w3.heap.size [(1, .func (.func 25) #[] #[]), (2, .func (.func 26) #[] #[]), (3, .func (.func 27) #[] #[])] hb a false))
  go_region_with (first | (go_at_call 24; refine (flagsOf_c _ _).mono ?_; rintro e w' ⟨rfl, rfl⟩) | (go_at_call 26; refine (put2_c _ _ _).mono ?_; rintro e w' ⟨rfl, rfl⟩))
  all_goals go_wp2
  all_goals
    refine bodyPost_ret (results_cell_row rfl _ _ g2 27 #[.int .i64 (Go.bits .or .i64 a0 (fl a1)), .slice A3 l0.length c3] (0, 0) _ rfl ?_ Try.underlying27 rfl (by kernel_rfl)) rfl ⟨_, rfl, ?_, ?_⟩
    · (with_reducible repeat (first | refine blk_drewN ?_ _ | refine blk_drew ?_ | refine blk_alloc ?_ _))
      refine blk_put (cs := #[.int .i64 (Go.bits .or .i64 a0 (fl a1)), .slice none 0 0]) ?_ 1 _ rfl
      refine blk_put (cs := #[.int .i64 0, .slice none 0 0]) ?_ 0 _ rfl
      repeat (refine blk_far ?_ N12.out.symm _)
      exact B2.out
    · (with_reducible repeat (first | apply Kd.R_alloc | apply Kd.R_drewN | apply Kd.R_drew))
      have HO' := Kd.R_types (Kd.R_types HO.out B1.out (by decide)) B2.out (by decide)
      refine Kd.R_mono (ok := fun k => (True ∧ k ≠ g1) ∧ k ≠ g2) ?_ (fun _ _ => trivial)
      refine Kd.R_far ?_ (fun _ hk => hk.2) _
      refine Kd.R_far ?_ (fun _ hk => hk.2) _
      refine Kd.R_far ?_ (fun _ hk => hk.1.2) _
      refine Kd.R_far ?_ (fun _ hk => hk.1.2) _
      exact HO'
    · repeat (first | (with_reducible first | exact HB.out | apply below_alloc | apply below_drew1 | refine below_set ?_ G1.out | refine below_set ?_ G2.out) | exact HB.out)

set_option maxHeartbeats 2000000 in
theorem put_3 (a0 : Int) (A0 : Option Addr) (c0 : Nat) (l0 : List Int) (a1 : Int) (w : World) (hr0 : Kd.C (Kd.int .i64) w A0 l0.length l0) (hc0 : l0.length ≤ c0) (hl : l0.length < 17592186044416) :
    Calls Try.prog 17 #[.agg #[.int .i64 a0, .slice A0 l0.length c0], .int .i64 a1, .int .i64 3] w (PutPost l0 (Go.bits .andNot .i64 a0 (fl a1)) w) := by
  have HR := Aside0.mk hr0
  have HC := Aside0.mk hc0
  have HL := Aside0.mk (show slices_Clone_int_int.f l0 = some l0 from if_pos hl)
  clear hr0 hc0 hl
  have hmm := fun W => run_made (P := Try.prog) 45 .i64 W
  have hput := fun W l n hn a v hf => run_put (P := Try.prog) 45 3 40 .i64 Try.underlying45 Try.underlying3 W l n hn a v hf
  have hfe : ∀ (fn : Fn) (first cap : Array Value) (w : World), (binOp .neq 40 (.func fn first cap) .nilFunc).run Try.prog w = .ok (.bool true) w := fun _ _ _ _ => by rfl
  have hfn : ∀ (w : World), (binOp .neq 40 .nilFunc .nilFunc).run Try.prog w = .ok (.bool false) w := fun _ => by rfl
  have HB := Aside0.mk (Below.refl w.heap.size w)
  go_enter Try.func17, Try.ntmps17
  go_wp2_with (first | ((with_reducible refine gate_dst (N := 3) rfl ?_); refine box_event ?hg (N := 3) ?hd (cs := #[.int .i64 a0, .slice A0 l0.length c0]) (t := 27) ?hr ?_; (case hd => rfl); (case hg => rfl); (case hr => first | (go_simp; done) | (go_simp; rfl)); intro g1 hg w1 hbox hb; have B1 := Aside0.mk hbox; have G1 := Aside0.mk (show w.heap.size ≤ g1 by rw [hg]; exact Nat.le_refl _); clear HB; have HB := Aside0.mk hb; clear hbox hb hg) | ((with_reducible refine gate_dst (N := 6) rfl ?_); refine box_event ?hg (N := 6) ?hd (cs := #[.int .i64 0, .slice none 0 0]) (t := 27) ?hr ?_; (case hd => rfl); (case hg => rfl); (case hr => first | (go_simp; done) | (go_simp; rfl)); intro g2 hg w2 hbox hb; have N12 := Aside0.mk (show g1 ≠ g2 by rw [hg]; exact Nat.ne_of_lt (blk_lt B1.out)); have B1' := Aside0.mk (blk_below B1.out hb); clear B1; have B1 := B1'; clear B1'; have B2 := Aside0.mk hbox; have G2 := Aside0.mk (show w.heap.size ≤ g2 by rw [hg]; exact HB.out.size); have HB' := Aside0.mk (below_step HB.out hb); clear HB; have HB := HB'; clear HB' hbox hb hg; have hcz := (blk_cell B1.out 1).trans rfl) | (go_at_call 23; (with_reducible refine (slices_Clone_int_int.calls A0 c0 l0 l0 _ (Kd.C_below HR.out HB.out) HC.out HL.out).mono ?_); rintro e w3 ⟨v3, rfl, hv3, hb⟩; obtain ⟨A3, c3, rfl⟩ := Kd.R_slice hv3; have HO := Aside0.mk (Kd.R_lower hv3 HB.out.size); have B1' := Aside0.mk (blk_below B1.out hb); clear B1; have B1 := B1'; clear B1'; have B2' := Aside0.mk (blk_below B2.out hb); clear B2; have B2 := B2'; clear B2'; have HB' := Aside0.mk (below_step HB.out hb); clear HB; have HB := HB'; clear HB' hv3 hb; clear hcz; have hcz := (blk_cell B1.out 1).trans rfl; have hcz0 := (blk_cell B1.out 0).trans rfl; have hfz := blk_frozen B1.out 1; have hfz0 := blk_frozen B1.out 0; have hlt1 := blk_lt B1.out; have hlt2 := blk_lt B2.out; have hcy0 := (blk_cell B2.out 0).trans rfl; have hcy1 := (blk_cell B2.out 1).trans rfl; have hfy0 := blk_frozen B2.out 0; have hfy1 := blk_frozen B2.out 1; have hn12 := N12.out; have hn21 := N12.out.symm; have hlk := fun W hb a => run_look (P := Try.prog) 45 3 40 .i64 Try.underlying45 Try.underlying3 .nilFunc zeroP W w3.heap.size [(1, .func (.func 25) #[] #[]), (2, .func (.func 26) #[] #[]), (3, .func (.func 27) #[] #[])] hb a false))
  go_region_with (first | (go_at_call 24; refine (flagsOf_c _ _).mono ?_; rintro e w' ⟨rfl, rfl⟩) | (go_at_call 27; refine (put3_c _ _ _).mono ?_; rintro e w' ⟨rfl, rfl⟩))
  all_goals go_wp2
  all_goals
    refine bodyPost_ret (results_cell_row rfl _ _ g2 27 #[.int .i64 (Go.bits .andNot .i64 a0 (fl a1)), .slice A3 l0.length c3] (0, 0) _ rfl ?_ Try.underlying27 rfl (by kernel_rfl)) rfl ⟨_, rfl, ?_, ?_⟩
    · (with_reducible repeat (first | refine blk_drewN ?_ _ | refine blk_drew ?_ | refine blk_alloc ?_ _))
      refine blk_put (cs := #[.int .i64 (Go.bits .andNot .i64 a0 (fl a1)), .slice none 0 0]) ?_ 1 _ rfl
      refine blk_put (cs := #[.int .i64 0, .slice none 0 0]) ?_ 0 _ rfl
      repeat (refine blk_far ?_ N12.out.symm _)
      exact B2.out
    · (with_reducible repeat (first | apply Kd.R_alloc | apply Kd.R_drewN | apply Kd.R_drew))
      have HO' := Kd.R_types (Kd.R_types HO.out B1.out (by decide)) B2.out (by decide)
      refine Kd.R_mono (ok := fun k => (True ∧ k ≠ g1) ∧ k ≠ g2) ?_ (fun _ _ => trivial)
      refine Kd.R_far ?_ (fun _ hk => hk.2) _
      refine Kd.R_far ?_ (fun _ hk => hk.2) _
      refine Kd.R_far ?_ (fun _ hk => hk.1.2) _
      refine Kd.R_far ?_ (fun _ hk => hk.1.2) _
      exact HO'
    · repeat (first | (with_reducible first | exact HB.out | apply below_alloc | apply below_drew1 | refine below_set ?_ G1.out | refine below_set ?_ G2.out) | exact HB.out)

set_option maxHeartbeats 2000000 in
theorem put_0 (a0 : Int) (A0 : Option Addr) (c0 : Nat) (l0 : List Int) (a1 how : Int) (w : World) (n1 : ¬ how = 1) (n2 : ¬ how = 2) (n3 : ¬ how = 3) (hr0 : Kd.C (Kd.int .i64) w A0 l0.length l0) (hc0 : l0.length ≤ c0) (hl : l0.length < 17592186044416) :
    Calls Try.prog 17 #[.agg #[.int .i64 a0, .slice A0 l0.length c0], .int .i64 a1, .int .i64 how] w (PutPost l0 a0 w) := by
  have HR := Aside0.mk hr0
  have HC := Aside0.mk hc0
  have HL := Aside0.mk (show slices_Clone_int_int.f l0 = some l0 from if_pos hl)
  clear hr0 hc0 hl
  have hmm := fun W => run_made (P := Try.prog) 45 .i64 W
  have hput := fun W l n hn a v hf => run_put (P := Try.prog) 45 3 40 .i64 Try.underlying45 Try.underlying3 W l n hn a v hf
  have hfe : ∀ (fn : Fn) (first cap : Array Value) (w : World), (binOp .neq 40 (.func fn first cap) .nilFunc).run Try.prog w = .ok (.bool true) w := fun _ _ _ _ => by rfl
  have hfn : ∀ (w : World), (binOp .neq 40 .nilFunc .nilFunc).run Try.prog w = .ok (.bool false) w := fun _ => by rfl
  have HB := Aside0.mk (Below.refl w.heap.size w)
  go_enter Try.func17, Try.ntmps17
  go_wp2_with (first | ((with_reducible refine gate_dst (N := 3) rfl ?_); refine box_event ?hg (N := 3) ?hd (cs := #[.int .i64 a0, .slice A0 l0.length c0]) (t := 27) ?hr ?_; (case hd => rfl); (case hg => rfl); (case hr => first | (go_simp; done) | (go_simp; rfl)); intro g1 hg w1 hbox hb; have B1 := Aside0.mk hbox; have G1 := Aside0.mk (show w.heap.size ≤ g1 by rw [hg]; exact Nat.le_refl _); clear HB; have HB := Aside0.mk hb; clear hbox hb hg) | ((with_reducible refine gate_dst (N := 6) rfl ?_); refine box_event ?hg (N := 6) ?hd (cs := #[.int .i64 0, .slice none 0 0]) (t := 27) ?hr ?_; (case hd => rfl); (case hg => rfl); (case hr => first | (go_simp; done) | (go_simp; rfl)); intro g2 hg w2 hbox hb; have N12 := Aside0.mk (show g1 ≠ g2 by rw [hg]; exact Nat.ne_of_lt (blk_lt B1.out)); have B1' := Aside0.mk (blk_below B1.out hb); clear B1; have B1 := B1'; clear B1'; have B2 := Aside0.mk hbox; have G2 := Aside0.mk (show w.heap.size ≤ g2 by rw [hg]; exact HB.out.size); have HB' := Aside0.mk (below_step HB.out hb); clear HB; have HB := HB'; clear HB' hbox hb hg; have hcz := (blk_cell B1.out 1).trans rfl) | (go_at_call 23; (with_reducible refine (slices_Clone_int_int.calls A0 c0 l0 l0 _ (Kd.C_below HR.out HB.out) HC.out HL.out).mono ?_); rintro e w3 ⟨v3, rfl, hv3, hb⟩; obtain ⟨A3, c3, rfl⟩ := Kd.R_slice hv3; have HO := Aside0.mk (Kd.R_lower hv3 HB.out.size); have B1' := Aside0.mk (blk_below B1.out hb); clear B1; have B1 := B1'; clear B1'; have B2' := Aside0.mk (blk_below B2.out hb); clear B2; have B2 := B2'; clear B2'; have HB' := Aside0.mk (below_step HB.out hb); clear HB; have HB := HB'; clear HB' hv3 hb; clear hcz; have hcz := (blk_cell B1.out 1).trans rfl; have hcz0 := (blk_cell B1.out 0).trans rfl; have hfz := blk_frozen B1.out 1; have hfz0 := blk_frozen B1.out 0; have hlt1 := blk_lt B1.out; have hlt2 := blk_lt B2.out; have hcy0 := (blk_cell B2.out 0).trans rfl; have hcy1 := (blk_cell B2.out 1).trans rfl; have hfy0 := blk_frozen B2.out 0; have hfy1 := blk_frozen B2.out 1; have hn12 := N12.out; have hn21 := N12.out.symm; have hlk := fun W hb a => run_look (P := Try.prog) 45 3 40 .i64 Try.underlying45 Try.underlying3 .nilFunc zeroP W w3.heap.size [(1, .func (.func 25) #[] #[]), (2, .func (.func 26) #[] #[]), (3, .func (.func 27) #[] #[])] hb a false))
  all_goals go_wp2
  all_goals
    refine bodyPost_ret (results_cell_row rfl _ _ g2 27 #[.int .i64 (a0), .slice A3 l0.length c3] (0, 0) _ rfl ?_ Try.underlying27 rfl (by kernel_rfl)) rfl ⟨_, rfl, ?_, ?_⟩
    · (with_reducible repeat (first | refine blk_drewN ?_ _ | refine blk_drew ?_ | refine blk_alloc ?_ _))
      refine blk_put (cs := #[.int .i64 (a0), .slice none 0 0]) ?_ 1 _ rfl
      refine blk_put (cs := #[.int .i64 0, .slice none 0 0]) ?_ 0 _ rfl
      repeat (refine blk_far ?_ N12.out.symm _)
      exact B2.out
    · (with_reducible repeat (first | apply Kd.R_alloc | apply Kd.R_drewN | apply Kd.R_drew))
      have HO' := Kd.R_types (Kd.R_types HO.out B1.out (by decide)) B2.out (by decide)
      refine Kd.R_mono (ok := fun k => (True ∧ k ≠ g1) ∧ k ≠ g2) ?_ (fun _ _ => trivial)
      refine Kd.R_far ?_ (fun _ hk => hk.2) _
      refine Kd.R_far ?_ (fun _ hk => hk.2) _
      refine Kd.R_far ?_ (fun _ hk => hk.1.2) _
      exact HO'
    · repeat (first | (with_reducible first | exact HB.out | apply below_alloc | apply below_drew1 | refine below_set ?_ G1.out | refine below_set ?_ G2.out) | exact HB.out)

def stack_Put.f (a0_0 : Int) (l0_1 : List Int) (a1 a2 : Int) : Option (Int × List Int) := if l0_1.length < 17592186044416 then some (putNow a0_0 a1 a2, l0_1) else none
theorem stack_Put.calls (a0_0 : Int) (A0_1 : Option Addr) (c0_1 : Nat) (l0_1 : List Int) (a1 a2 : Int) (r1 : Int) (r2 : List Int) (w : World) (hr0_1 : Kd.C (Kd.int .i64) w A0_1 l0_1.length l0_1) (hc0_1 : l0_1.length ≤ c0_1) (h : stack_Put.f a0_0 l0_1 a1 a2 = some (r1, r2)) :
    Calls Try.prog 17 #[.agg #[.int .i64 a0_0, .slice A0_1 l0_1.length c0_1], .int .i64 a1, .int .i64 a2] w fun e w' => ∃ v1_ : Value, e = .returned (.agg #[.int .i64 r1, v1_]) ∧ Kd.R (Kd.int .i64) 3 w' w.heap.size (fun _ => True) v1_ r2 ∧ Below w.heap.size w w' := by
  unfold stack_Put.f at h
  by_cases hl : l0_1.length < 17592186044416
  · rw [if_pos hl] at h
    simp only [Option.some.injEq, Prod.mk.injEq] at h
    obtain ⟨rfl, rfl⟩ := h
    unfold putNow
    by_cases h1 : a2 = 1
    · subst h1
      rw [if_pos rfl]
      exact put_1 a0_0 A0_1 c0_1 _ a1 w hr0_1 hc0_1 hl
    rw [if_neg h1]
    by_cases h2 : a2 = 2
    · subst h2
      rw [if_pos rfl]
      exact put_2 a0_0 A0_1 c0_1 _ a1 w hr0_1 hc0_1 hl
    rw [if_neg h2]
    by_cases h3 : a2 = 3
    · subst h3
      rw [if_pos rfl]
      exact put_3 a0_0 A0_1 c0_1 _ a1 w hr0_1 hc0_1 hl
    rw [if_neg h3]
    exact put_0 a0_0 A0_1 c0_1 _ a1 a2 w h1 h2 h3 hr0_1 hc0_1 hl
  · rw [if_neg hl] at h
    cases h
end Go.Proofs.Ytlnnjdjdpfifiaa.H
