import Derived.Test.YtlnnjdjdpfifiaaHClone
import Derived.BigRegion
import Derived.Outline
/- stack.Pop: what was kept is taken, so many times. -/
namespace Go.Proofs.Ytlnnjdjdpfifiaa.H
open Go.RowKit Go.Proofs.YtlnnjdjdpfifiaaW.PrintWords Go.Proofs.YtlnnjdjdpfifiaaW.PrintLast Go.Proofs.YtlnnjdjdpfifiaaW.PrintMore
set_option linter.unusedVariables false
set_option linter.unusedSimpArgs false
attribute [local go_sem] max2_int min2_int max_two min_two

/-- The flag that is, when so many are left of what was kept. -/
def left (now : Int) (l : List Int) (j : Nat) : Int := if j < l.length then l.getD j 0 else now
def PopPost (l : List Int) (now : Int) (w : World) (e : Ending) (w' : World) : Prop := ∃ v1_ : Value, e = .returned (.agg #[.int .i64 now, v1_]) ∧ Kd.R (Kd.int .i64) 3 w' w.heap.size (fun _ => True) v1_ l ∧ Below w.heap.size w w'
theorem clone_at (A : Option Addr) (c n : Nat) (l : List Int) (w : World) (hn : l.length = n) (hr : Kd.C (Kd.int .i64) w A n l) (hc : n ≤ c) (hl : l.length < 17592186044416) :
    Calls Try.prog 23 #[.slice A n c] w fun e w' => ∃ v0_ : Value, e = .returned (v0_) ∧ Kd.R (Kd.int .i64) 3 w' w.heap.size (fun _ => True) v0_ l ∧ Below w.heap.size w w' := by
  subst hn
  exact slices_Clone_int_int.calls A c l l w hr hc (if_pos hl)
theorem cell_at {ad : Addr} {l : List Int} {w wr : World} {j : Nat} (h : Kd.C (Kd.int .i64) w (some ad) l.length l) (hb : Below w.heap.size w wr) (hj : j < l.length) : wr.cell? (ad.add j) = some (.int .i64 (l.getD j 0)) := by
  have := Kd.foot_int h (j : Int) (Int.natCast_nonneg j) (by omega)
  exact pw_cell_below hb this
theorem some_of {A : Option Addr} {l : List Int} {w : World} {j : Nat} (h : Kd.C (Kd.int .i64) w A l.length l) (hj : j < l.length) : ∃ ad, A = some ad := by
  obtain ⟨ad, e, _⟩ := h.2.2 (by omega)
  exact ⟨ad, e⟩

set_option maxHeartbeats 4000000 in
theorem pop_few (a0 : Int) (A0 : Option Addr) (c0 : Nat) (l0 : List Int) (a1 : Int) (w : World) (n m : Nat) (hn : n + m = l0.length) (ha : (a1 ≤ 0 ∧ n = 0) ∨ a1 = n) (hr0 : Kd.C (Kd.int .i64) w A0 l0.length l0) (hc0 : l0.length ≤ c0) (hl : l0.length < 17592186044416) :
    Calls Try.prog 15 #[.agg #[.int .i64 a0, .slice A0 l0.length c0], .int .i64 a1] w (PopPost (l0.take m) (left a0 l0 m) w) := by
  have HR := Aside0.mk hr0
  have HC := Aside0.mk hc0
  have HL := Aside0.mk hl
  have hb2 : l0.length ≤ 17592186044416 := by omega
  have HN := Aside0.mk hn
  have HA := Aside0.mk ha
  have hb1 : a1 ≤ l0.length + 1 := by omega
  have hb3 : decide ((l0.length : Int) + 1 < a1) = false := decide_eq_false (by omega)
  clear hn ha
  clear hr0 hc0 hl
  have HB := Aside0.mk (Below.refl w.heap.size w)
  go_enter Try.func15, Try.ntmps15
  go_wp2_with (first | ((with_reducible refine gate_dst (N := 2) rfl ?_); refine box_event ?hg (N := 2) ?hd (cs := #[.int .i64 a0, .slice A0 l0.length c0]) (t := 27) ?hr ?_; (case hd => rfl); (case hg => rfl); (case hr => first | (go_simp; done) | (go_simp; rfl)); intro g1 hg w1 hbox hb; have B1 := Aside0.mk hbox; have G1 := Aside0.mk (show w.heap.size ≤ g1 by rw [hg]; exact Nat.le_refl _); clear HB; have HB := Aside0.mk hb; clear hbox hb hg) | ((with_reducible refine gate_dst (N := 4) rfl ?_); refine box_event ?hg (N := 4) ?hd (cs := #[.int .i64 0, .slice none 0 0]) (t := 27) ?hr ?_; (case hd => rfl); (case hg => rfl); (case hr => first | (go_simp; done) | (go_simp; rfl)); intro g2 hg w2 hbox hb; have N12 := Aside0.mk (show g1 ≠ g2 by rw [hg]; exact Nat.ne_of_lt (blk_lt B1.out)); have B1' := Aside0.mk (blk_below B1.out hb); clear B1; have B1 := B1'; clear B1'; have B2 := Aside0.mk hbox; have G2 := Aside0.mk (show w.heap.size ≤ g2 by rw [hg]; exact HB.out.size); have HB' := Aside0.mk (below_step HB.out hb); clear HB; have HB := HB'; clear HB' hbox hb hg; have hcz := (blk_cell B1.out 1).trans rfl))
  go_loopw [12] (fun v12 wr => ∃ (i j cj : Nat), v12 = .int .i64 i ∧ Aside0 (i + j = l0.length ∧ j ≤ cj ∧ cj ≤ c0 ∧ i ≤ n) ∧ Aside0 (wr.heap[g1]? = some (.cells #[.int .i64 (left a0 l0 j), .slice A0 j cj] 27 (0, 0))) ∧ Aside0 (wr.heap[g2]? = some (.cells #[.int .i64 0, .slice none 0 0] 27 (0, 0))) ∧ Aside0 (Below w.heap.size w wr)) (fun v12 _ => l0.length - (intOf v12).toNat)
  case atStart => exact ⟨0, l0.length, c0, rfl, ⟨by omega, HC.out, Nat.le_refl _, by omega⟩, ⟨by rw [show left a0 l0 l0.length = a0 from if_neg (Nat.lt_irrefl _)]; exact B1.out⟩, B2, HB⟩
  case round =>
    clear B1 B2 HB hcz
    obtain ⟨i, j, cj, rfl, hij, B1, B2, HB⟩ := hrel
    obtain ⟨h1, h3, h4, h5⟩ := hij.out
    have hcz := (blk_cell B1.out 1).trans rfl
    have hcz0 := (blk_cell B1.out 0).trans rfl
    have hcy0 := (blk_cell B2.out 0).trans rfl
    have hcy1 := (blk_cell B2.out 1).trans rfl
    have hfz0 := blk_frozen B1.out 0
    have hfz1 := blk_frozen B1.out 1
    have hfy0 := blk_frozen B2.out 0
    have hfy1 := blk_frozen B2.out 1
    have hlt1 := blk_lt B1.out
    have hlt2 := blk_lt B2.out
    have hn12 := N12.out
    have hn21 := N12.out.symm
    have h1' : j ≤ l0.length := by omega
    by_cases hin : i < n
    · obtain ⟨j, rfl⟩ : ∃ k, j = k + 1 := ⟨j - 1, by have := HN.out; omega⟩
      have hcond : (i : Int) < a1 := by have := HA.out; omega
      have hlen : j < l0.length := by omega
      obtain ⟨ad, rfl⟩ := some_of HR.out hlen
      have hce := cell_at HR.out HB.out hlen
      go_wp2
      go_region
      go_wp2
      refine ⟨⟨i + 1, j, j, by push_cast; rfl, ⟨by omega, Nat.le_refl _, by omega, by omega⟩, ⟨?_⟩, ⟨?_⟩, ⟨?_⟩⟩, ?_⟩
      · refine blk_drew ?_
        have : left a0 l0 j = l0[j] := by rw [left, if_pos hlen, List.getD_eq_getElem?_getD, List.getElem?_eq_getElem hlen]; rfl
        rw [this]
        refine blk_put (cs := #[.int .i64 l0[j], .slice (some ad) (j + 1) cj]) ?_ 1 _ rfl
        exact blk_put B1.out 0 _ rfl
      · refine blk_drew ?_
        repeat (refine blk_far ?_ N12.out.symm _)
        exact B2.out
      · apply below_drew1
        refine below_set ?_ G1.out
        refine below_set ?_ G1.out
        exact HB.out
      · show l0.length - (((i : Int) + 1)).toNat < l0.length - ((i : Int)).toNat
        omega
    · have hje : i = n := by omega
      have hjm : j = m := by have := HN.out; omega
      have hcond : ¬ (i : Int) < a1 := by have := HA.out; omega
      subst hje
      subst hjm
      have HL2 := Aside0.mk (show (l0.take j).length < 17592186044416 from (by rw [List.length_take]; have := HL.out; omega))
      have hlt : (l0.take j).length = j := by rw [List.length_take]; omega
      have HCT := Aside0.mk (hlt ▸ Kd.C_take (m := j) HR.out h1')
      have HJ := Aside0.mk (show j ≤ cj by omega)
      clear hcz hcz0 hcy0 hcy1 hfz0 hfz1 hfy0 hfy1 hlt1 hlt2
      have hcz := (blk_cell B1.out 1).trans rfl
      go_wp2_with (go_at_call 23; (with_reducible refine (clone_at A0 cj j (l0.take j) _ hlt (Kd.C_below HCT.out HB.out) HJ.out HL2.out).mono ?_); rintro e w3 ⟨v3, rfl, hv3, hb⟩; obtain ⟨A3, c3, rfl⟩ := Kd.R_slice hv3; have HO := Aside0.mk (Kd.R_lower hv3 HB.out.size); have B1' := Aside0.mk (blk_below B1.out hb); clear B1; have B1 := B1'; clear B1'; have B2' := Aside0.mk (blk_below B2.out hb); clear B2; have B2 := B2'; clear B2'; have HB' := Aside0.mk (below_step HB.out hb); clear HB; have HB := HB'; clear HB' hv3 hb; clear hcz; have hcz := (blk_cell B1.out 1).trans rfl; have hcz0 := (blk_cell B1.out 0).trans rfl; have hfz := blk_frozen B1.out 1; have hfz0 := blk_frozen B1.out 0; have hlt1 := blk_lt B1.out; have hlt2 := blk_lt B2.out; have hcy0 := (blk_cell B2.out 0).trans rfl; have hcy1 := (blk_cell B2.out 1).trans rfl; have hfy0 := blk_frozen B2.out 0; have hfy1 := blk_frozen B2.out 1; have hn12 := N12.out; have hn21 := N12.out.symm)
      have HO2 := HO.out
      rw [hlt] at HO2
      refine bodyPost_ret (results_cell_row rfl _ _ g2 27 #[.int .i64 (left a0 l0 j), .slice A3 j c3] (0, 0) _ rfl ?_ Try.underlying27 rfl (by kernel_rfl)) rfl ⟨_, rfl, ?_, ?_⟩
      · (with_reducible repeat (first | refine blk_drewN ?_ _ | refine blk_drew ?_ | refine blk_alloc ?_ _))
        refine blk_put (cs := #[.int .i64 (left a0 l0 j), .slice none 0 0]) ?_ 1 _ rfl
        refine blk_put (cs := #[.int .i64 0, .slice none 0 0]) ?_ 0 _ rfl
        repeat (refine blk_far ?_ N12.out.symm _)
        exact B2.out
      · (with_reducible repeat (first | apply Kd.R_alloc | apply Kd.R_drewN | apply Kd.R_drew))
        have HO' := Kd.R_types (Kd.R_types HO2 B1.out (by decide)) B2.out (by decide)
        refine Kd.R_mono (ok := fun k => (True ∧ k ≠ g1) ∧ k ≠ g2) ?_ (fun _ _ => trivial)
        refine Kd.R_far ?_ (fun _ hk => hk.2) _
        refine Kd.R_far ?_ (fun _ hk => hk.2) _
        refine Kd.R_far ?_ (fun _ hk => hk.1.2) _
        exact HO'
      · repeat (first | (with_reducible first | exact HB.out | apply below_alloc | apply below_drew1 | refine below_set ?_ G1.out | refine below_set ?_ G2.out) | exact HB.out)

set_option maxHeartbeats 4000000 in
theorem pop_all1 (a0 : Int) (A0 : Option Addr) (c0 : Nat) (l0 : List Int) (a1 : Int) (w : World) (ha : a1 = l0.length + 1) (hr0 : Kd.C (Kd.int .i64) w A0 l0.length l0) (hc0 : l0.length ≤ c0) (hl : l0.length < 17592186044416) :
    Calls Try.prog 15 #[.agg #[.int .i64 a0, .slice A0 l0.length c0], .int .i64 a1] w (PopPost [] 0 w) := by
  have HR := Aside0.mk hr0
  have HC := Aside0.mk hc0
  have HL := Aside0.mk hl
  have hb2 : l0.length ≤ 17592186044416 := by omega
  have HA := Aside0.mk ha
  have hb1 : a1 ≤ l0.length + 1 := by omega
  have hb3 : decide ((l0.length : Int) + 1 < a1) = false := decide_eq_false (by omega)
  clear ha
  clear hr0 hc0 hl
  have HB := Aside0.mk (Below.refl w.heap.size w)
  go_enter Try.func15, Try.ntmps15
  go_wp2_with (first | ((with_reducible refine gate_dst (N := 2) rfl ?_); refine box_event ?hg (N := 2) ?hd (cs := #[.int .i64 a0, .slice A0 l0.length c0]) (t := 27) ?hr ?_; (case hd => rfl); (case hg => rfl); (case hr => first | (go_simp; done) | (go_simp; rfl)); intro g1 hg w1 hbox hb; have B1 := Aside0.mk hbox; have G1 := Aside0.mk (show w.heap.size ≤ g1 by rw [hg]; exact Nat.le_refl _); clear HB; have HB := Aside0.mk hb; clear hbox hb hg) | ((with_reducible refine gate_dst (N := 4) rfl ?_); refine box_event ?hg (N := 4) ?hd (cs := #[.int .i64 0, .slice none 0 0]) (t := 27) ?hr ?_; (case hd => rfl); (case hg => rfl); (case hr => first | (go_simp; done) | (go_simp; rfl)); intro g2 hg w2 hbox hb; have N12 := Aside0.mk (show g1 ≠ g2 by rw [hg]; exact Nat.ne_of_lt (blk_lt B1.out)); have B1' := Aside0.mk (blk_below B1.out hb); clear B1; have B1 := B1'; clear B1'; have B2 := Aside0.mk hbox; have G2 := Aside0.mk (show w.heap.size ≤ g2 by rw [hg]; exact HB.out.size); have HB' := Aside0.mk (below_step HB.out hb); clear HB; have HB := HB'; clear HB' hbox hb hg; have hcz := (blk_cell B1.out 1).trans rfl))
  go_loopw [12] (fun v12 wr => ∃ (i j cj : Nat), v12 = .int .i64 i ∧ Aside0 (i + j = l0.length ∧ j ≤ cj ∧ cj ≤ c0) ∧ Aside0 (wr.heap[g1]? = some (.cells #[.int .i64 (left a0 l0 j), .slice A0 j cj] 27 (0, 0))) ∧ Aside0 (wr.heap[g2]? = some (.cells #[.int .i64 0, .slice none 0 0] 27 (0, 0))) ∧ Aside0 (Below w.heap.size w wr)) (fun v12 _ => l0.length - (intOf v12).toNat)
  case atStart => exact ⟨0, l0.length, c0, rfl, ⟨by omega, HC.out, Nat.le_refl _⟩, ⟨by rw [show left a0 l0 l0.length = a0 from if_neg (Nat.lt_irrefl _)]; exact B1.out⟩, B2, HB⟩
  case round =>
    clear B1 B2 HB hcz
    obtain ⟨i, j, cj, rfl, hij, B1, B2, HB⟩ := hrel
    obtain ⟨h1, h3, h4⟩ := hij.out
    have hcz := (blk_cell B1.out 1).trans rfl
    have hcz0 := (blk_cell B1.out 0).trans rfl
    have hcy0 := (blk_cell B2.out 0).trans rfl
    have hcy1 := (blk_cell B2.out 1).trans rfl
    have hfz0 := blk_frozen B1.out 0
    have hfz1 := blk_frozen B1.out 1
    have hfy0 := blk_frozen B2.out 0
    have hfy1 := blk_frozen B2.out 1
    have hlt1 := blk_lt B1.out
    have hlt2 := blk_lt B2.out
    have hn12 := N12.out
    have hn21 := N12.out.symm
    have h1' : j ≤ l0.length := by omega
    have hcond : (i : Int) < a1 := by have := HA.out; omega
    cases j with
    | succ j =>
      have hlen : j < l0.length := by omega
      obtain ⟨ad, rfl⟩ := some_of HR.out hlen
      have hce := cell_at HR.out HB.out hlen
      go_wp2
      go_region
      go_wp2
      refine ⟨⟨i + 1, j, j, by push_cast; rfl, ⟨by omega, Nat.le_refl _, by omega⟩, ⟨?_⟩, ⟨?_⟩, ⟨?_⟩⟩, ?_⟩
      · refine blk_drew ?_
        have : left a0 l0 j = l0[j] := by rw [left, if_pos hlen, List.getD_eq_getElem?_getD, List.getElem?_eq_getElem hlen]; rfl
        rw [this]
        refine blk_put (cs := #[.int .i64 l0[j], .slice (some ad) (j + 1) cj]) ?_ 1 _ rfl
        exact blk_put B1.out 0 _ rfl
      · refine blk_drew ?_
        repeat (refine blk_far ?_ N12.out.symm _)
        exact B2.out
      · apply below_drew1
        refine below_set ?_ G1.out
        refine below_set ?_ G1.out
        exact HB.out
      · show l0.length - (((i : Int) + 1)).toNat < l0.length - ((i : Int)).toNat
        omega
    | zero =>
      go_wp2
      refine bodyPost_ret (results_cell_row rfl _ _ g2 27 #[.int .i64 0, .slice none 0 0] (0, 0) _ rfl ?_ Try.underlying27 rfl (by kernel_rfl)) rfl ⟨_, rfl, ?_, ?_⟩
      · (with_reducible repeat (first | refine blk_drewN ?_ _ | refine blk_drew ?_ | refine blk_alloc ?_ _))
        refine blk_put (cs := #[.int .i64 0, .slice none 0 0]) ?_ 1 _ rfl
        refine blk_put (cs := #[.int .i64 0, .slice none 0 0]) ?_ 0 _ rfl
        exact B2.out
      · exact Kd.R_nil _ _ _ _ _
      · repeat (first | (with_reducible first | exact HB.out | apply below_alloc | apply below_drew1 | refine below_set ?_ G1.out | refine below_set ?_ G2.out) | exact HB.out)

set_option maxHeartbeats 4000000 in
theorem pop_all2 (a0 : Int) (A0 : Option Addr) (c0 : Nat) (l0 : List Int) (a1 : Int) (w : World) (ha : (l0.length : Int) + 1 < a1) (hr0 : Kd.C (Kd.int .i64) w A0 l0.length l0) (hc0 : l0.length ≤ c0) (hl : l0.length < 17592186044416) :
    Calls Try.prog 15 #[.agg #[.int .i64 a0, .slice A0 l0.length c0], .int .i64 a1] w (PopPost [] 0 w) := by
  have HR := Aside0.mk hr0
  have HC := Aside0.mk hc0
  have HL := Aside0.mk hl
  have hb2 : l0.length ≤ 17592186044416 := by omega
  have HA := Aside0.mk ha
  have hb1 : ¬ a1 ≤ (l0.length : Int) + 1 := by omega
  have hb3 : decide ((l0.length : Int) + 1 < a1) = true := decide_eq_true ha
  clear ha
  clear hr0 hc0 hl
  have HB := Aside0.mk (Below.refl w.heap.size w)
  go_enter Try.func15, Try.ntmps15
  go_wp2_with (first | ((with_reducible refine gate_dst (N := 2) rfl ?_); refine box_event ?hg (N := 2) ?hd (cs := #[.int .i64 a0, .slice A0 l0.length c0]) (t := 27) ?hr ?_; (case hd => rfl); (case hg => rfl); (case hr => first | (go_simp; done) | (go_simp; rfl)); intro g1 hg w1 hbox hb; have B1 := Aside0.mk hbox; have G1 := Aside0.mk (show w.heap.size ≤ g1 by rw [hg]; exact Nat.le_refl _); clear HB; have HB := Aside0.mk hb; clear hbox hb hg) | ((with_reducible refine gate_dst (N := 4) rfl ?_); refine box_event ?hg (N := 4) ?hd (cs := #[.int .i64 0, .slice none 0 0]) (t := 27) ?hr ?_; (case hd => rfl); (case hg => rfl); (case hr => first | (go_simp; done) | (go_simp; rfl)); intro g2 hg w2 hbox hb; have N12 := Aside0.mk (show g1 ≠ g2 by rw [hg]; exact Nat.ne_of_lt (blk_lt B1.out)); have B1' := Aside0.mk (blk_below B1.out hb); clear B1; have B1 := B1'; clear B1'; have B2 := Aside0.mk hbox; have G2 := Aside0.mk (show w.heap.size ≤ g2 by rw [hg]; exact HB.out.size); have HB' := Aside0.mk (below_step HB.out hb); clear HB; have HB := HB'; clear HB' hbox hb hg; have hcz := (blk_cell B1.out 1).trans rfl))
  go_loopw [12] (fun v12 wr => ∃ (i j cj : Nat), v12 = .int .i64 i ∧ Aside0 (i + j = l0.length ∧ j ≤ cj ∧ cj ≤ c0) ∧ Aside0 (wr.heap[g1]? = some (.cells #[.int .i64 (left a0 l0 j), .slice A0 j cj] 27 (0, 0))) ∧ Aside0 (wr.heap[g2]? = some (.cells #[.int .i64 0, .slice none 0 0] 27 (0, 0))) ∧ Aside0 (Below w.heap.size w wr)) (fun v12 _ => l0.length - (intOf v12).toNat)
  case atStart => exact ⟨0, l0.length, c0, rfl, ⟨by omega, HC.out, Nat.le_refl _⟩, ⟨by rw [show left a0 l0 l0.length = a0 from if_neg (Nat.lt_irrefl _)]; exact B1.out⟩, B2, HB⟩
  case round =>
    clear B1 B2 HB hcz
    obtain ⟨i, j, cj, rfl, hij, B1, B2, HB⟩ := hrel
    obtain ⟨h1, h3, h4⟩ := hij.out
    have hcz := (blk_cell B1.out 1).trans rfl
    have hcz0 := (blk_cell B1.out 0).trans rfl
    have hcy0 := (blk_cell B2.out 0).trans rfl
    have hcy1 := (blk_cell B2.out 1).trans rfl
    have hfz0 := blk_frozen B1.out 0
    have hfz1 := blk_frozen B1.out 1
    have hfy0 := blk_frozen B2.out 0
    have hfy1 := blk_frozen B2.out 1
    have hlt1 := blk_lt B1.out
    have hlt2 := blk_lt B2.out
    have hn12 := N12.out
    have hn21 := N12.out.symm
    have h1' : j ≤ l0.length := by omega
    have hcond : (i : Int) < (l0.length : Int) + 1 := by omega
    cases j with
    | succ j =>
      have hlen : j < l0.length := by omega
      obtain ⟨ad, rfl⟩ := some_of HR.out hlen
      have hce := cell_at HR.out HB.out hlen
      go_wp2
      go_region
      go_wp2
      refine ⟨⟨i + 1, j, j, by push_cast; rfl, ⟨by omega, Nat.le_refl _, by omega⟩, ⟨?_⟩, ⟨?_⟩, ⟨?_⟩⟩, ?_⟩
      · refine blk_drew ?_
        have : left a0 l0 j = l0[j] := by rw [left, if_pos hlen, List.getD_eq_getElem?_getD, List.getElem?_eq_getElem hlen]; rfl
        rw [this]
        refine blk_put (cs := #[.int .i64 l0[j], .slice (some ad) (j + 1) cj]) ?_ 1 _ rfl
        exact blk_put B1.out 0 _ rfl
      · refine blk_drew ?_
        repeat (refine blk_far ?_ N12.out.symm _)
        exact B2.out
      · apply below_drew1
        refine below_set ?_ G1.out
        refine below_set ?_ G1.out
        exact HB.out
      · show l0.length - (((i : Int) + 1)).toNat < l0.length - ((i : Int)).toNat
        omega
    | zero =>
      go_wp2
      refine bodyPost_ret (results_cell_row rfl _ _ g2 27 #[.int .i64 0, .slice none 0 0] (0, 0) _ rfl ?_ Try.underlying27 rfl (by kernel_rfl)) rfl ⟨_, rfl, ?_, ?_⟩
      · (with_reducible repeat (first | refine blk_drewN ?_ _ | refine blk_drew ?_ | refine blk_alloc ?_ _))
        refine blk_put (cs := #[.int .i64 0, .slice none 0 0]) ?_ 1 _ rfl
        refine blk_put (cs := #[.int .i64 0, .slice none 0 0]) ?_ 0 _ rfl
        exact B2.out
      · exact Kd.R_nil _ _ _ _ _
      · repeat (first | (with_reducible first | exact HB.out | apply below_alloc | apply below_drew1 | refine below_set ?_ G1.out | refine below_set ?_ G2.out) | exact HB.out)

/-- What Pop gives: the flags that are, and what is kept. -/
def popNow (now : Int) (l : List Int) (n : Int) : Int := if n ≤ 0 then now else if n ≤ l.length then left now l (l.length - n.toNat) else 0
def popKept (l : List Int) (n : Int) : List Int := if n ≤ 0 then l else if n ≤ l.length then l.take (l.length - n.toNat) else []
def stack_Pop.f (a0_0 : Int) (l0_1 : List Int) (a1 : Int) : Option (Int × List Int) := if l0_1.length < 17592186044416 then some (popNow a0_0 l0_1 a1, popKept l0_1 a1) else none
theorem stack_Pop.calls (a0_0 : Int) (A0_1 : Option Addr) (c0_1 : Nat) (l0_1 : List Int) (a1 : Int) (r1 : Int) (r2 : List Int) (w : World) (hr0_1 : Kd.C (Kd.int .i64) w A0_1 l0_1.length l0_1) (hc0_1 : l0_1.length ≤ c0_1) (h : stack_Pop.f a0_0 l0_1 a1 = some (r1, r2)) :
    Calls Try.prog 15 #[.agg #[.int .i64 a0_0, .slice A0_1 l0_1.length c0_1], .int .i64 a1] w fun e w' => ∃ v1_ : Value, e = .returned (.agg #[.int .i64 r1, v1_]) ∧ Kd.R (Kd.int .i64) 3 w' w.heap.size (fun _ => True) v1_ r2 ∧ Below w.heap.size w w' := by
  unfold stack_Pop.f at h
  by_cases hl : l0_1.length < 17592186044416
  · rw [if_pos hl] at h
    simp only [Option.some.injEq, Prod.mk.injEq] at h
    obtain ⟨rfl, rfl⟩ := h
    unfold popNow popKept
    by_cases h0 : a1 ≤ 0
    · rw [if_pos h0, if_pos h0]
      have := pop_few a0_0 A0_1 c0_1 l0_1 a1 w 0 l0_1.length (by omega) (Or.inl ⟨h0, rfl⟩) hr0_1 hc0_1 hl
      rw [List.take_length, show left a0_0 l0_1 l0_1.length = a0_0 from if_neg (Nat.lt_irrefl _)] at this
      exact this
    rw [if_neg h0, if_neg h0]
    by_cases h1 : a1 ≤ l0_1.length
    · rw [if_pos h1, if_pos h1]
      exact pop_few a0_0 A0_1 c0_1 l0_1 a1 w a1.toNat (l0_1.length - a1.toNat) (by omega) (Or.inr (by omega)) hr0_1 hc0_1 hl
    rw [if_neg h1, if_neg h1]
    by_cases h2 : a1 = l0_1.length + 1
    · exact pop_all1 a0_0 A0_1 c0_1 l0_1 a1 w h2 hr0_1 hc0_1 hl
    · exact pop_all2 a0_0 A0_1 c0_1 l0_1 a1 w (by omega) hr0_1 hc0_1 hl
  · rw [if_neg hl] at h
    cases h
end Go.Proofs.Ytlnnjdjdpfifiaa.H
