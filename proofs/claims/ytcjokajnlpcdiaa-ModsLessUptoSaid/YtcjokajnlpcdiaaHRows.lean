import Derived.Test.YtcjokajnlpcdiaaHEntry
/- keys.rows: the table. -/
namespace Go.Proofs.Ytcjokajnlpcdiaa.H
open Go Go.RowKit Go.Proofs.YtcjokajnlpcdiaaW.PrintWords Go.Proofs.YtcjokajnlpcdiaaW.PrintLast Go.Proofs.YtcjokajnlpcdiaaW.PrintMore
set_option linter.unusedVariables false
set_option linter.unusedSimpArgs false
/-- A row: its first code, how many, the kind, the final bytes, the numbers (and in which block they lie), the characters. -/
abbrev RowT := Int × Int × Int × ByteArray × Option (Nat × List Int) × ByteArray
def TAB : List RowT := [
  (9, 1, 2, ⟨#[]⟩, none, ⟨#[]⟩),
  (13, 1, 2, ⟨#[]⟩, none, ⟨#[]⟩),
  (27, 1, 2, ⟨#[]⟩, none, ⟨#[]⟩),
  (127, 1, 2, ⟨#[]⟩, none, ⟨#[]⟩),
  (57348, 2, 4, ⟨#[]⟩, some (0, [2, 3]), ⟨#[]⟩),
  (57350, 4, 3, ⟨#[68, 67, 65, 66]⟩, none, ⟨#[]⟩),
  (57354, 2, 4, ⟨#[]⟩, some (1, [5, 6]), ⟨#[]⟩),
  (57356, 2, 3, ⟨#[72, 70]⟩, none, ⟨#[]⟩),
  (57358, 5, 6, ⟨#[]⟩, none, ⟨#[]⟩),
  (57363, 1, 4, ⟨#[]⟩, some (2, [29]), ⟨#[]⟩),
  (57364, 4, 3, ⟨#[80, 81, 82, 83]⟩, none, ⟨#[]⟩),
  (57368, 8, 4, ⟨#[]⟩, some (3, [15, 17, 18, 19, 20, 21, 23, 24]), ⟨#[]⟩),
  (57376, 23, 6, ⟨#[]⟩, none, ⟨#[]⟩),
  (57399, 18, 5, ⟨#[112, 113, 114, 115, 116, 117, 118, 119, 120, 121, 110, 111, 106, 109, 107, 77, 88, 108]⟩, none, ⟨#[48, 49, 50, 51, 52, 53, 54, 55, 56, 57, 46, 47, 42, 45, 43, 13, 61, 44]⟩),
  (57417, 4, 3, ⟨#[68, 67, 65, 66]⟩, none, ⟨#[]⟩),
  (57421, 2, 4, ⟨#[]⟩, some (4, [5, 6]), ⟨#[]⟩),
  (57423, 2, 3, ⟨#[72, 70]⟩, none, ⟨#[]⟩),
  (57425, 2, 4, ⟨#[]⟩, some (5, [2, 3]), ⟨#[]⟩),
  (57427, 1, 3, ⟨#[69]⟩, none, ⟨#[]⟩),
  (57428, 13, 6, ⟨#[]⟩, none, ⟨#[]⟩),
  (57441, 14, 7, ⟨#[]⟩, none, ⟨#[]⟩)]
@[reducible] def numsV (s : Nat) : Option (Nat × List Int) → Value
  | none => .slice none 0 0
  | some (q, l) => .slice (some ⟨s + q, 0, none⟩) l.length l.length
@[reducible] def rowV (s : Nat) (r : RowT) : List Value := [.int .i64 r.1, .int .i64 r.2.1, .int .i64 r.2.2.1, .string r.2.2.2.1, numsV s r.2.2.2.2.1, .string r.2.2.2.2.2]
def rowsArr (s : Nat) : Array Value := (TAB.flatMap (rowV s)).toArray
/-- The blocks of the numbers. -/
def NUMS : List (List Int) := [[2, 3], [5, 6], [29], [15, 17, 18, 19, 20, 21, 23, 24], [5, 6], [2, 3]]
def TabAt (s : Nat) (W : World) : Prop := W.heap[s + 6]? = some (.cells (rowsArr s) 57 (0, 0)) ∧ ∀ q l, NUMS[q]? = some l → W.heap[s + q]? = some (.cells (l.map (Value.int .i64)).toArray 3 (0, 0))
set_option maxRecDepth 100000 in
set_option maxHeartbeats 4000000 in
theorem rows_c (w : World) : Calls Try.prog 38 #[] w fun e w' => e = .returned (.slice (some ⟨w.heap.size + 6, 0, none⟩) 21 21) ∧ Below w.heap.size w w' ∧ TabAt w.heap.size w' := by
  go_enter Try.func38, Try.ntmps38
  go_wp2
  go_ret
  refine ⟨rfl, ?_, ?_, ?_⟩
  · repeat (first | exact Below.refl _ _ | apply below_alloc)
  · have h (W : World) (o : Obj) (n : Nat) (hn : W.heap.size = n) : (W.alloc o).heap[n]? = some o := hn ▸ blk_new W o
    exact h _ _ _ (by simp only [World.size_alloc])
  · intro q l hq
    have h (W : World) (o : Obj) (n : Nat) (hn : W.heap.size = n) : (W.alloc o).heap[n]? = some o := hn ▸ blk_new W o
    have hlt : q < 6 := by
      have := (List.getElem?_eq_some_iff.1 hq).1
      exact this
    rcases q with _ | _ | _ | _ | _ | _ | q
    · cases hq; iterate 6 (refine blk_alloc ?_ _)
      exact h _ _ _ rfl
    · cases hq; iterate 5 (refine blk_alloc ?_ _)
      exact h _ _ _ (by simp only [World.size_alloc])
    · cases hq; iterate 4 (refine blk_alloc ?_ _)
      exact h _ _ _ (by simp only [World.size_alloc])
    · cases hq; iterate 3 (refine blk_alloc ?_ _)
      exact h _ _ _ (by simp only [World.size_alloc])
    · cases hq; iterate 2 (refine blk_alloc ?_ _)
      exact h _ _ _ (by simp only [World.size_alloc])
    · cases hq; iterate 1 (refine blk_alloc ?_ _)
      exact h _ _ _ (by simp only [World.size_alloc])
    · exfalso; omega
end Go.Proofs.Ytcjokajnlpcdiaa.H
