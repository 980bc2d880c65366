import Derived.Test.YtcjokajnlpcdiaaProg
import Derived.Test.YtcjokajnlpcdiaaWWords
import Derived.Test.YtcjokajnlpcdiaaWLast
import Derived.Test.YtcjokajnlpcdiaaWMore
import Derived.WalkSpells
import Derived.Outline
import Derived.Lib.Bytes
/- keys.row.entry: the four shapes of a row. -/
namespace Go.Proofs.Ytcjokajnlpcdiaa.H
open Go Go.RowKit Go.Proofs.YtcjokajnlpcdiaaW.PrintWords Go.Proofs.YtcjokajnlpcdiaaW.PrintLast Go.Proofs.YtcjokajnlpcdiaaW.PrintMore
set_option linter.unusedVariables false
set_option linter.unusedSimpArgs false
theorem neq_nil (W : World) : (binOp .neq 36 (.slice none 0 0) (.slice none 0 0)).run Try.prog W = .ok (.bool false) W := by kernel_rfl
theorem neq_some (ad : Addr) (n c : Nat) (W : World) : (binOp .neq 36 (.slice (some ad) n c) (.slice none 0 0)).run Try.prog W = .ok (.bool true) W := by kernel_rfl
/-- On the pad's board. -/
def padB (fr kd : Int) : Bool := decide (fr ≥ 57399) && (kd != 6) && (kd != 7)
theorem pad_6 (fr : Int) : padB fr 6 = false := by simp [padB]
theorem str_ne {s : ByteArray} (h : s.size ≠ 0) : ((s.toList != (⟨#[]⟩ : ByteArray).toList) = true) := by
  rw [bne_iff_ne]
  intro e
  apply h
  have := congrArg List.length e
  rw [Go.Lib.toList_data, Go.Lib.toList_data] at this
  simpa using this
theorem str_em {s : ByteArray} (h : s.size ≠ 0) : s.toList.isEmpty = false := by
  have hl : s.toList.length = s.size := by rw [Go.Lib.toList_data]; simp
  cases h2 : s.toList with
  | nil => rw [h2] at hl; simp at hl; omega
  | cons _ _ => rfl
theorem cell_al {w : World} {a : Addr} {v : Value} (h : w.cell? a = some v) (o : Obj) : (w.alloc o).cell? a = some v :=
  (World.cell?_of_block (Below.heap_alloc w o a.block (World.block_lt_of_cell? w _ h))).trans h
theorem third (w : World) (o1 o2 o3 : Obj) : (((w.alloc o1).alloc o2).alloc o3).heap[w.heap.size + 1]? = some o2 :=
  blk_alloc (by have := blk_new (w.alloc o1) o2; rwa [World.size_alloc] at this) o3
set_option maxRecDepth 100000 in
set_option maxHeartbeats 2000000 in
theorem entry_1 (fr mn kd i : Int)  (w : World) : Calls Try.prog 39 #[.agg #[.int .i64 fr, .int .i64 mn, .int .i64 kd, .string ⟨#[]⟩, .slice none 0 0, .string ⟨#[]⟩], .int .i64 i] w fun e w' => e = .returned (.agg #[.int .i64 kd, .int .u8 0, .int .i64 0, .int .i64 0, .bool (padB fr kd)]) ∧ Below w.heap.size w w' := by
  have hu24 := Try.underlying34
  have hu47 := Try.underlying57
  have hu45 := Try.underlying36
  have q0 := neq_nil
  have q1 := neq_some
  go_enter Try.func39, Try.ntmps39
  go_wp2
  all_goals refine bodyPost_ret (results_cell_row rfl _ _ (w.heap.size + 1) 34 #[.int .i64 kd, .int .u8 0, .int .i64 0, .int .i64 0, .bool (padB fr kd)] (0, 0) _ rfl ?_ Try.underlying34 rfl (by kernel_rfl)) rfl ⟨rfl, ?_⟩
  all_goals first | (repeat (first | exact Below.refl _ _ | apply below_alloc)) | skip
  all_goals (rw [third]; simp [padB, *] <;> omega)
set_option maxRecDepth 100000 in
set_option maxHeartbeats 2000000 in
theorem entry_2 (fr mn kd i : Int) (ad : Addr) (n : Nat) (v : Int) (w : World) (h0 : 0 ≤ i) (h1 : i < n) (hc : w.cell? (ad.add i.toNat) = some (.int .i64 v)) : Calls Try.prog 39 #[.agg #[.int .i64 fr, .int .i64 mn, .int .i64 kd, .string ⟨#[]⟩, .slice (some ad) n n, .string ⟨#[]⟩], .int .i64 i] w fun e w' => e = .returned (.agg #[.int .i64 kd, .int .u8 0, .int .i64 v, .int .i64 0, .bool (padB fr kd)]) ∧ Below w.heap.size w w' := by
  have hu24 := Try.underlying34
  have hu47 := Try.underlying57
  have hu45 := Try.underlying36
  have q0 := neq_nil
  have q1 := neq_some
  have p0 := eq_true h0
  have p1 := eq_true h1
  have hc3 : ∀ (o1 o2 o3 : Obj), (((w.alloc o1).alloc o2).alloc o3).cell? (ad.add i.toNat) = some (.int .i64 v) := fun o1 o2 o3 => cell_al (cell_al (cell_al hc _) _) _
  clear h0 h1
  go_enter Try.func39, Try.ntmps39
  go_wp2
  all_goals refine bodyPost_ret (results_cell_row rfl _ _ (w.heap.size + 1) 34 #[.int .i64 kd, .int .u8 0, .int .i64 v, .int .i64 0, .bool (padB fr kd)] (0, 0) _ rfl ?_ Try.underlying34 rfl (by kernel_rfl)) rfl ⟨rfl, ?_⟩
  all_goals first | (repeat (first | exact Below.refl _ _ | apply below_alloc)) | skip
  all_goals (rw [third]; simp [padB, *] <;> omega)
set_option maxRecDepth 100000 in
set_option maxHeartbeats 2000000 in
theorem entry_3 (fr mn kd i : Int) (fin : ByteArray) (w : World) (h0 : 0 ≤ i) (h1 : i < fin.size) : Calls Try.prog 39 #[.agg #[.int .i64 fr, .int .i64 mn, .int .i64 kd, .string fin, .slice none 0 0, .string ⟨#[]⟩], .int .i64 i] w fun e w' => e = .returned (.agg #[.int .i64 kd, .int .u8 (bt fin i), .int .i64 0, .int .i64 0, .bool (padB fr kd)]) ∧ Below w.heap.size w w' := by
  have hu24 := Try.underlying34
  have hu47 := Try.underlying57
  have hu45 := Try.underlying36
  have q0 := neq_nil
  have q1 := neq_some
  have hs := str_em (s := fin) (by omega)
  have hb := bt_at fin i (by omega)
  go_enter Try.func39, Try.ntmps39
  go_wp2
  all_goals refine bodyPost_ret (results_cell_row rfl _ _ (w.heap.size + 1) 34 #[.int .i64 kd, .int .u8 (bt fin i), .int .i64 0, .int .i64 0, .bool (padB fr kd)] (0, 0) _ rfl ?_ Try.underlying34 rfl (by kernel_rfl)) rfl ⟨rfl, ?_⟩
  all_goals first | (repeat (first | exact Below.refl _ _ | apply below_alloc)) | skip
  all_goals (rw [third]; simp [padB, *] <;> omega)
set_option maxRecDepth 100000 in
set_option maxHeartbeats 2000000 in
theorem entry_4 (fr mn kd i : Int) (fin chr : ByteArray) (w : World) (h0 : 0 ≤ i) (h1 : i < fin.size) (h2 : i < chr.size) : Calls Try.prog 39 #[.agg #[.int .i64 fr, .int .i64 mn, .int .i64 kd, .string fin, .slice none 0 0, .string chr], .int .i64 i] w fun e w' => e = .returned (.agg #[.int .i64 kd, .int .u8 (bt fin i), .int .i64 0, .int .i64 (wrap64 (bt chr i)), .bool (padB fr kd)]) ∧ Below w.heap.size w w' := by
  have hu24 := Try.underlying34
  have hu47 := Try.underlying57
  have hu45 := Try.underlying36
  have q0 := neq_nil
  have q1 := neq_some
  have hs := str_em (s := fin) (by omega)
  have hs2 := str_em (s := chr) (by omega)
  have hb := bt_at fin i (by omega)
  have hb2 := bt_at chr i (by omega)
  go_enter Try.func39, Try.ntmps39
  go_wp2
  all_goals refine bodyPost_ret (results_cell_row rfl _ _ (w.heap.size + 1) 34 #[.int .i64 kd, .int .u8 (bt fin i), .int .i64 0, .int .i64 (wrap64 (bt chr i)), .bool (padB fr kd)] (0, 0) _ rfl ?_ Try.underlying34 rfl (by kernel_rfl)) rfl ⟨rfl, ?_⟩
  all_goals first | (repeat (first | exact Below.refl _ _ | apply below_alloc)) | skip
  all_goals (rw [third]; simp [padB, *] <;> omega)
end Go.Proofs.Ytcjokajnlpcdiaa.H
