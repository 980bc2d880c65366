import Derived.Test.YtehnppklfaoikaaHQu1
/- The queue: Push. -/
namespace Go.Proofs.Ytehnppklfaoikaa.H
open Go Go.RowKit Go.Proofs.YtehnppklfaoikaaW.PrintWords Go.Proofs.YtehnppklfaoikaaW.PrintLast Go.Proofs.YtehnppklfaoikaaW.PrintMore
set_option linter.unusedVariables false
set_option linter.unusedSimpArgs false

theorem Push_none (A : Option Addr) (n c : Nat) (w : World) :
    Calls Try.prog 13 #[.pointer none, .slice A n c] w fun e w' => e = .returned (.bool false) ∧ Below w.heap.size w w' := by
  have HB := Aside0.mk (Below.refl w.heap.size w)
  go_enter Try.func13, Try.ntmps13
  go_wp2
  go_ret
  exact ⟨rfl, by repeat (first | (with_reducible first | exact HB.out | apply below_alloc | apply pw_below_drewN | apply below_drew1) | exact HB.out)⟩

theorem Push_big (w0 w : World) (q : Nat) (P : Nat → Prop) (x : QS) (A : Option Addr) (n c : Nat) (hB : Below w0.heap.size w0 w) (h : Qu w w0.heap.size q P x) (hn : x.room < (x.bs.length : Int) + n) (hb : x.bs.length + n < 4294967296) :
    Calls Try.prog 13 #[.pointer (some ⟨q, 0, none⟩), .slice A n c] w fun e w' => e = .returned (.bool false) ∧ Qu w' w0.heap.size q P ⟨x.bs, x.room, wrap64 (x.dr + 1)⟩ ∧ Below w0.heap.size w0 w' ∧ Kept w w' (fun k => P k ∨ k = q) := by
  obtain ⟨h0, sl, h1, h2⟩ := h
  obtain ⟨bs, room, dr⟩ := x
  obtain ⟨A2, c2, rfl⟩ := Kd.R_slice h2
  dsimp only at *
  have hc0 : w.cell? ⟨q, 0, none⟩ = some (.slice A2 bs.length c2) := (blk_cell h1 0).trans rfl
  have hc1 : w.cell? ⟨q, 1, none⟩ = some (.int .i64 room) := (blk_cell h1 1).trans rfl
  have hc2 : w.cell? ⟨q, 2, none⟩ = some (.int .i64 dr) := (blk_cell h1 2).trans rfl
  have hz2 := blk_frozen h1 2
  have e1 : decide (room < wrap64 ((bs.length : Int) + n)) = true := decide_eq_true (by rw [IntWalk.wrap64_in _ (by omega)]; exact hn)
  have h1 := Aside0.mk h1
  have h2 := Aside0.mk h2
  have HB := Aside0.mk hB
  clear hn hB hb
  go_enter Try.func13, Try.ntmps13
  go_wp2
  go_region
  go_wp2_with (go_at_call 19; refine (Add_calls q dr 1 _ (by exact hc2) (by exact hz2)).mono ?_; rintro e w1 ⟨rfl, rfl⟩)
  go_ret
  exact ⟨rfl, ⟨h0, _, blk_drew (blk_put h1.out 2 _ rfl), Kd.R_drew (Kd.R_set h2.out h1.out (by decide) 2 _)⟩, below_drew1 (below_set HB.out h0), Kept.drew (Kept.setCell (Kept.refl _ _) (.inl (.inr rfl)) _)⟩

theorem infoU8 : (Try.prog.info? 5).map (fun i => (i.zero, i.size, i.bytes)) = some (some (.int .u8 0), 1, 1) := by kernel_rfl
theorem Push_ok (w0 w : World) (q : Nat) (P : Nat → Prop) (x : QS) (A : Option Addr) (l : List Int) (c : Nat) (hB : Below w0.heap.size w0 w) (h : Qu w w0.heap.size q P x)
    (hr : ∀ W, Kept w W (fun k => P k ∨ k = q) → Kd.C (Kd.int .u8) W A l.length l) (hc : l.length ≤ c) (hn : (x.bs.length : Int) + l.length ≤ x.room) (hb : x.bs.length + l.length < 4294967296) :
    Calls Try.prog 13 #[.pointer (some ⟨q, 0, none⟩), .slice A l.length c] w fun e w' => e = .returned (.bool true) ∧ Qu w' w0.heap.size q (fun k => P k ∨ w.heap.size ≤ k) ⟨x.bs ++ l, x.room, x.dr⟩ ∧ Below w0.heap.size w0 w' ∧ Kept w w' (fun k => P k ∨ k = q) := by
  obtain ⟨h0, sl, h1, h2⟩ := h
  obtain ⟨bs, room, dr⟩ := x
  obtain ⟨A2, c2, rfl⟩ := Kd.R_slice h2
  dsimp only at *
  have hc0 : w.cell? ⟨q, 0, none⟩ = some (.slice A2 bs.length c2) := (blk_cell h1 0).trans rfl
  have hc1 : w.cell? ⟨q, 1, none⟩ = some (.int .i64 room) := (blk_cell h1 1).trans rfl
  have e1 : decide (room < wrap64 ((bs.length : Int) + l.length)) = false := decide_eq_false (by rw [IntWalk.wrap64_in _ (by omega)]; omega)
  have h1 := Aside0.mk h1
  have h2 := Aside0.mk h2
  have HB := Aside0.mk hB
  have HR := Aside0.mk hr
  have HL := Aside0.mk hb
  clear hn hB hb hr
  go_enter Try.func13, Try.ntmps13
  go_wp2
  go_region
  go_wp2_with ((with_reducible refine gate_builtin (b := .append) (xs := #[.tmp 28, .tmp 29]) rfl ?_); at_builtin; refine Kd.R_append_rows (Kd.int .u8) (w0 := w0) w0.heap.size rfl (.tmp 28) (.tmp 29) 28 5 (.int .u8 0) 1 rfl Try.underlying28 infoU8 rfl (by decide) (by omega) (.slice A2 bs.length c2) bs l _ _ _ (fun k => P k ∨ w.heap.size ≤ k) (fun _ => False) rfl rfl ?aO ?aR (fun _ _ h => h) (fun _ h => h.elim) ?aF ?aB ?aS ?aL ?_; (case aR => exact HR.out _ (Kept.drew (Kept.refl _ _))); (case aB => exact below_drew1 HB.out); (case aF => exact fun k hk => .inr hk); (case aO => exact Kd.R_drew (Kd.R_mono h2.out (fun _ hk => .inl hk))); (case aS => exact below_size (below_drew1 HB.out)); (case aL => have := HL.out; omega); intro v1 w1 ho hb hg hat; obtain ⟨A3, c3, rfl⟩ := Kd.R_slice ho; have hq1 := blk_grown (blk_drew h1.out) hg (Kd.R_ne h2.out h1.out (by decide)); have hc3 : w1.cell? ⟨q, 0, none⟩ = some (.slice A2 bs.length c2) := (blk_cell hq1 0).trans rfl; have hz3 := blk_frozen hq1 0; have HQ := Aside0.mk hq1; have HO := Aside0.mk ho; have HB1 := Aside0.mk hb; have HG := Aside0.mk hg; have HAT := Aside0.mk hat; clear hq1 ho hb hg hat)
  go_ret
  refine ⟨rfl, ⟨h0, _, blk_put HQ.out 0 _ rfl, (by have h_ := Kd.R_set HO.out HQ.out (by decide) 0 (.slice A3 (bs.length + l.length) c3); rw [List.length_append] at h_; exact h_)⟩, below_set HB1.out h0, ?_⟩
  exact Kept.setCell (Kept.of_grown HG.out (Kept.drew (Kept.refl _ _)) (fun k hk => .inl (.inl (h2.out.1 k hk)))) (.inl (.inr rfl)) _

end Go.Proofs.Ytehnppklfaoikaa.H
