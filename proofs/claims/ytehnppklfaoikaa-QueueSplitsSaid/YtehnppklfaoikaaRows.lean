/-
  No cell of these rows narrows 'for every input' (looked for: loops, veiled, ifaces, maps, wideKeys, modest, calm, conditions, laid).
  DERIVED. THE GIVEN ROWS OF THIS SEAT. 6 by the template 'for every input the law returns true; each argument reads behind the call as it read before'; 0 by the template 'total and deterministic' (their statements: YtehnppklfaoikaaTotals.lean).
  GIVEN WITH THE SEED: the statements are not yours to turn. If you find one false, say at which input.
  Laid BY PROGRAM, IN A SANDBOX (cutbox-rows.mjs): the forced cells as the released guide's own fill.sh prints them over the translation 60955d2660d14871… (all of the seat's roots in one cut). By AI agents, Wed Nov 11 2026. No macro, syntax, notation, axiom, sorry.
-/
import Derived.Test.YtehnppklfaoikaaChecked
import GoSem.Claim
import GoSem.ClaimJoined
import GoSem.ClaimMapViews
import Derived.JoinedTies
import Derived.KernelRfl
namespace Go.Proofs.Ytehnppklfaoikaa
/- THE CELL 'sum', in the pinned program and in every row, IS THE sha256 OF THE DUMP (.gsa) THAT YtehnppklfaoikaaProg.lean LOADS. Nothing in Lean hashes anything: it is a label: what it is worth is what the hold of that sum in a sandbox is worth. -/
noncomputable def Try.pinned : Pinned := { name := "ytehnppklfaoikaa", sum := "60955d2660d14871d23c3e7116a5b539ffcf39b964e6417a7e5ba0239eef7215", checked := Try.checked }
namespace Rows
def none {H : Type} : Left H := { results := [], args := [] }

/-- 'clavierlaw04.QueuePlays': WHATEVER THE INPUT: true; the input reads as it did. -/
def queuePlaysSpec : ChangeSpec := { name := "queuePlays", fn := fun _ => fun
  | [d1, d2] => { results := [.lit (.bool true)], args := [d1, d2] }
  | _ => none }
def queuePlaysRow : OpenClaim := { program := "ytehnppklfaoikaa", sum := "60955d2660d14871d23c3e7116a5b539ffcf39b964e6417a7e5ba0239eef7215", func := "clavier/clavierlaw04.QueuePlays", spec := "queuePlays", inPlace := ["sync/atomic.AddInt64", "sync/atomic.LoadInt64"], apart := false }
def QueuePlaysSaid : Prop := queuePlaysRow.holds Try.pinned (OpenSpec.ofChange queuePlaysSpec)

/-- ITS FALSE NEIGHBOUR: 'it returns false'. Refute it at one input. -/
def queuePlaysWrong : ChangeSpec := { name := "queuePlays", fn := fun _ => fun
  | [d1, d2] => { results := [.lit (.bool false)], args := [d1, d2] }
  | _ => none }
def QueuePlaysWrongFalsely : Prop := queuePlaysRow.holds Try.pinned (OpenSpec.ofChange queuePlaysWrong)

/-- 'clavierlaw04.QueueWhole': WHATEVER THE INPUT: true; the input reads as it did. -/
def queueWholeSpec : ChangeSpec := { name := "queueWhole", fn := fun _ => fun
  | [d1, d2] => { results := [.lit (.bool true)], args := [d1, d2] }
  | _ => none }
def queueWholeRow : OpenClaim := { program := "ytehnppklfaoikaa", sum := "60955d2660d14871d23c3e7116a5b539ffcf39b964e6417a7e5ba0239eef7215", func := "clavier/clavierlaw04.QueueWhole", spec := "queueWhole", inPlace := ["sync/atomic.AddInt64", "sync/atomic.LoadInt64"], apart := false }
def QueueWholeSaid : Prop := queueWholeRow.holds Try.pinned (OpenSpec.ofChange queueWholeSpec)

/-- ITS FALSE NEIGHBOUR: 'it returns false'. Refute it at one input. -/
def queueWholeWrong : ChangeSpec := { name := "queueWhole", fn := fun _ => fun
  | [d1, d2] => { results := [.lit (.bool false)], args := [d1, d2] }
  | _ => none }
def QueueWholeWrongFalsely : Prop := queueWholeRow.holds Try.pinned (OpenSpec.ofChange queueWholeWrong)

/-- 'clavierlaw04.QueueSplits': WHATEVER THE INPUT: true; the input reads as it did. -/
def queueSplitsSpec : ChangeSpec := { name := "queueSplits", fn := fun _ => fun
  | [d1, d2] => { results := [.lit (.bool true)], args := [d1, d2] }
  | _ => none }
def queueSplitsRow : OpenClaim := { program := "ytehnppklfaoikaa", sum := "60955d2660d14871d23c3e7116a5b539ffcf39b964e6417a7e5ba0239eef7215", func := "clavier/clavierlaw04.QueueSplits", spec := "queueSplits", inPlace := ["sync/atomic.AddInt64", "sync/atomic.LoadInt64"], apart := false }
def QueueSplitsSaid : Prop := queueSplitsRow.holds Try.pinned (OpenSpec.ofChange queueSplitsSpec)

/-- ITS FALSE NEIGHBOUR: 'it returns false'. Refute it at one input. -/
def queueSplitsWrong : ChangeSpec := { name := "queueSplits", fn := fun _ => fun
  | [d1, d2] => { results := [.lit (.bool false)], args := [d1, d2] }
  | _ => none }
def QueueSplitsWrongFalsely : Prop := queueSplitsRow.holds Try.pinned (OpenSpec.ofChange queueSplitsWrong)

/-- 'clavierlaw04.QueueShares': WHATEVER THE INPUT: true; the input reads as it did. -/
def queueSharesSpec : ChangeSpec := { name := "queueShares", fn := fun _ => fun
  | [d1, d2] => { results := [.lit (.bool true)], args := [d1, d2] }
  | _ => none }
def queueSharesRow : OpenClaim := { program := "ytehnppklfaoikaa", sum := "60955d2660d14871d23c3e7116a5b539ffcf39b964e6417a7e5ba0239eef7215", func := "clavier/clavierlaw04.QueueShares", spec := "queueShares", inPlace := ["sync/atomic.AddInt64", "sync/atomic.LoadInt64"], apart := false }
def QueueSharesSaid : Prop := queueSharesRow.holds Try.pinned (OpenSpec.ofChange queueSharesSpec)

/-- ITS FALSE NEIGHBOUR: 'it returns false'. Refute it at one input. -/
def queueSharesWrong : ChangeSpec := { name := "queueShares", fn := fun _ => fun
  | [d1, d2] => { results := [.lit (.bool false)], args := [d1, d2] }
  | _ => none }
def QueueSharesWrongFalsely : Prop := queueSharesRow.holds Try.pinned (OpenSpec.ofChange queueSharesWrong)

/-- 'clavierlaw04.QueueNobody': WHATEVER THE INPUT: true; the input reads as it did. -/
def queueNobodySpec : ChangeSpec := { name := "queueNobody", fn := fun _ => fun
  | [d1, d2] => { results := [.lit (.bool true)], args := [d1, d2] }
  | _ => none }
def queueNobodyRow : OpenClaim := { program := "ytehnppklfaoikaa", sum := "60955d2660d14871d23c3e7116a5b539ffcf39b964e6417a7e5ba0239eef7215", func := "clavier/clavierlaw04.QueueNobody", spec := "queueNobody", inPlace := ["sync/atomic.AddInt64", "sync/atomic.LoadInt64"], apart := false }
def QueueNobodySaid : Prop := queueNobodyRow.holds Try.pinned (OpenSpec.ofChange queueNobodySpec)

/-- ITS FALSE NEIGHBOUR: 'it returns false'. Refute it at one input. -/
def queueNobodyWrong : ChangeSpec := { name := "queueNobody", fn := fun _ => fun
  | [d1, d2] => { results := [.lit (.bool false)], args := [d1, d2] }
  | _ => none }
def QueueNobodyWrongFalsely : Prop := queueNobodyRow.holds Try.pinned (OpenSpec.ofChange queueNobodyWrong)

/-- 'clavierlaw04.QueueRoom': WHATEVER THE INPUT: true; the input reads as it did. -/
def queueRoomSpec : ChangeSpec := { name := "queueRoom", fn := fun _ => fun
  | [d1, d2] => { results := [.lit (.bool true)], args := [d1, d2] }
  | _ => none }
def queueRoomRow : OpenClaim := { program := "ytehnppklfaoikaa", sum := "60955d2660d14871d23c3e7116a5b539ffcf39b964e6417a7e5ba0239eef7215", func := "clavier/clavierlaw04.QueueRoom", spec := "queueRoom", inPlace := ["sync/atomic.AddInt64", "sync/atomic.LoadInt64"], apart := false }
def QueueRoomSaid : Prop := queueRoomRow.holds Try.pinned (OpenSpec.ofChange queueRoomSpec)

/-- ITS FALSE NEIGHBOUR: 'it returns false'. Refute it at one input. -/
def queueRoomWrong : ChangeSpec := { name := "queueRoom", fn := fun _ => fun
  | [d1, d2] => { results := [.lit (.bool false)], args := [d1, d2] }
  | _ => none }
def QueueRoomWrongFalsely : Prop := queueRoomRow.holds Try.pinned (OpenSpec.ofChange queueRoomWrong)

/- THE SECOND FORM. 'bulk': how many values and letters a reading holds, each counted each time it is reached (what is shared counts as often as it is met; a slice's spare places count too). A statement '..UptoSaid' is the law's where the arguments, and the package variables that the reading takes, are together of bulk at most 1048576: NARROWER than '..Said'. Prove '..Said' where nothing that the law and all that it calls make is longer than what came in: it says more and counts as full. Else prove '..UptoSaid'. A law counts once. -/
mutual
def uptoBulk {H : Type} : DataW H → Nat
  | .lit (.string bytes) => bytes.length + 1
  | .lit _ => 1
  | .nil => 1
  | .ptr d => uptoBulk d + 1
  | .slice elems spare => uptoBulkAll elems + uptoBulkAll spare + 1
  | .agg parts => uptoBulkAll parts + 1
  | .iface _ d => uptoBulk d + 1
  | .map entries => uptoBulkEntries entries + 1
  | .held _ => 1
def uptoBulkAll {H : Type} : List (DataW H) → Nat
  | [] => 0
  | d :: r => uptoBulk d + uptoBulkAll r
def uptoBulkEntries {H : Type} : List (Lit × DataW H) → Nat
  | [] => 0
  | x :: r => uptoBulkEntry x + uptoBulkEntries r
def uptoBulkEntry {H : Type} : Lit × DataW H → Nat
  | (.string bytes, d) => bytes.length + uptoBulk d + 1
  | (_, d) => uptoBulk d + 1
 end
def uptoSmall : (H : Type) → List (DataW H) → Bool := fun _ ds => decide (uptoBulkAll ds ≤ 1048576)
def OpenSpec.upto (s : _root_.Go.ChangeSpec) : _root_.Go.OpenSpec := { _root_.Go.OpenSpec.ofChange s with cond := some uptoSmall }

/-- 'clavierlaw04.QueuePlays', WHERE WHAT IT READS IS OF BULK AT MOST 1048576: true; the input reads as it did. -/
def queuePlaysUptoRow : OpenClaim := { program := "ytehnppklfaoikaa", sum := "60955d2660d14871d23c3e7116a5b539ffcf39b964e6417a7e5ba0239eef7215", func := "clavier/clavierlaw04.QueuePlays", spec := "queuePlays", inPlace := ["sync/atomic.AddInt64", "sync/atomic.LoadInt64"], apart := false, narrowed := true }
def QueuePlaysUptoSaid : Prop := queuePlaysUptoRow.holds Try.pinned (OpenSpec.upto queuePlaysSpec)

/-- 'clavierlaw04.QueueWhole', WHERE WHAT IT READS IS OF BULK AT MOST 1048576: true; the input reads as it did. -/
def queueWholeUptoRow : OpenClaim := { program := "ytehnppklfaoikaa", sum := "60955d2660d14871d23c3e7116a5b539ffcf39b964e6417a7e5ba0239eef7215", func := "clavier/clavierlaw04.QueueWhole", spec := "queueWhole", inPlace := ["sync/atomic.AddInt64", "sync/atomic.LoadInt64"], apart := false, narrowed := true }
def QueueWholeUptoSaid : Prop := queueWholeUptoRow.holds Try.pinned (OpenSpec.upto queueWholeSpec)

/-- 'clavierlaw04.QueueSplits', WHERE WHAT IT READS IS OF BULK AT MOST 1048576: true; the input reads as it did. -/
def queueSplitsUptoRow : OpenClaim := { program := "ytehnppklfaoikaa", sum := "60955d2660d14871d23c3e7116a5b539ffcf39b964e6417a7e5ba0239eef7215", func := "clavier/clavierlaw04.QueueSplits", spec := "queueSplits", inPlace := ["sync/atomic.AddInt64", "sync/atomic.LoadInt64"], apart := false, narrowed := true }
def QueueSplitsUptoSaid : Prop := queueSplitsUptoRow.holds Try.pinned (OpenSpec.upto queueSplitsSpec)

/-- 'clavierlaw04.QueueShares', WHERE WHAT IT READS IS OF BULK AT MOST 1048576: true; the input reads as it did. -/
def queueSharesUptoRow : OpenClaim := { program := "ytehnppklfaoikaa", sum := "60955d2660d14871d23c3e7116a5b539ffcf39b964e6417a7e5ba0239eef7215", func := "clavier/clavierlaw04.QueueShares", spec := "queueShares", inPlace := ["sync/atomic.AddInt64", "sync/atomic.LoadInt64"], apart := false, narrowed := true }
def QueueSharesUptoSaid : Prop := queueSharesUptoRow.holds Try.pinned (OpenSpec.upto queueSharesSpec)

/-- 'clavierlaw04.QueueNobody', WHERE WHAT IT READS IS OF BULK AT MOST 1048576: true; the input reads as it did. -/
def queueNobodyUptoRow : OpenClaim := { program := "ytehnppklfaoikaa", sum := "60955d2660d14871d23c3e7116a5b539ffcf39b964e6417a7e5ba0239eef7215", func := "clavier/clavierlaw04.QueueNobody", spec := "queueNobody", inPlace := ["sync/atomic.AddInt64", "sync/atomic.LoadInt64"], apart := false, narrowed := true }
def QueueNobodyUptoSaid : Prop := queueNobodyUptoRow.holds Try.pinned (OpenSpec.upto queueNobodySpec)

/-- 'clavierlaw04.QueueRoom', WHERE WHAT IT READS IS OF BULK AT MOST 1048576: true; the input reads as it did. -/
def queueRoomUptoRow : OpenClaim := { program := "ytehnppklfaoikaa", sum := "60955d2660d14871d23c3e7116a5b539ffcf39b964e6417a7e5ba0239eef7215", func := "clavier/clavierlaw04.QueueRoom", spec := "queueRoom", inPlace := ["sync/atomic.AddInt64", "sync/atomic.LoadInt64"], apart := false, narrowed := true }
def QueueRoomUptoSaid : Prop := queueRoomUptoRow.holds Try.pinned (OpenSpec.upto queueRoomSpec)

end Rows
end Go.Proofs.Ytehnppklfaoikaa
