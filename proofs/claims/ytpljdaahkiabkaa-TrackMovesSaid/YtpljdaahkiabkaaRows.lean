/-
  No cell of these rows narrows 'for every input' (looked for: loops, veiled, ifaces, maps, wideKeys, modest, calm, conditions, laid).
  DERIVED. THE GIVEN ROWS OF THIS SEAT. 6 by the template 'for every input the law returns true; each argument reads behind the call as it read before'; 0 by the template 'total and deterministic' (their statements: YtpljdaahkiabkaaTotals.lean).
  GIVEN WITH THE SEED: the statements are not yours to turn. If you find one false, say at which input.
  Laid BY PROGRAM, IN A SANDBOX (cutbox-rows.mjs): the forced cells as the released guide's own fill.sh prints them over the translation d4d2f61463553f54… (all of the seat's roots in one cut). By AI agents, Wed Nov 11 2026. No macro, syntax, notation, axiom, sorry.
-/
import Derived.Test.YtpljdaahkiabkaaChecked
import GoSem.Claim
import GoSem.ClaimJoined
import GoSem.ClaimMapViews
import Derived.JoinedTies
import Derived.KernelRfl
namespace Go.Proofs.Ytpljdaahkiabkaa
/- THE CELL 'sum', in the pinned program and in every row, IS THE sha256 OF THE DUMP (.gsa) THAT YtpljdaahkiabkaaProg.lean LOADS. Nothing in Lean hashes anything: it is a label: what it is worth is what the hold of that sum in a sandbox is worth. -/
noncomputable def Try.pinned : Pinned := { name := "ytpljdaahkiabkaa", sum := "d4d2f61463553f54a5e3d24f08f0efb5d4ba2c4ee5ef25300a2a20e9b963b14d", checked := Try.checked }
namespace Rows
def none {H : Type} : Left H := { results := [], args := [] }

/-- 'clavierlaw15.TrackTells': WHATEVER THE INPUT: true; the input reads as it did. -/
def trackTellsSpec : ChangeSpec := { name := "trackTells", fn := fun _ => fun
  | [d1, d2, d3] => { results := [.lit (.bool true)], args := [d1, d2, d3] }
  | _ => none }
def trackTellsRow : OpenClaim := { program := "ytpljdaahkiabkaa", sum := "d4d2f61463553f54a5e3d24f08f0efb5d4ba2c4ee5ef25300a2a20e9b963b14d", func := "clavier/clavierlaw15.TrackTells", spec := "trackTells", unfollowed := true, recurses := true, apart := false }
def TrackTellsSaid : Prop := trackTellsRow.holds Try.pinned (OpenSpec.ofChange trackTellsSpec)

/-- ITS FALSE NEIGHBOUR: 'it returns false'. Refute it at one input. -/
def trackTellsWrong : ChangeSpec := { name := "trackTells", fn := fun _ => fun
  | [d1, d2, d3] => { results := [.lit (.bool false)], args := [d1, d2, d3] }
  | _ => none }
def TrackTellsWrongFalsely : Prop := trackTellsRow.holds Try.pinned (OpenSpec.ofChange trackTellsWrong)

/-- 'clavierlaw15.TrackMore': WHATEVER THE INPUT: true; the input reads as it did. -/
def trackMoreSpec : ChangeSpec := { name := "trackMore", fn := fun _ => fun
  | [d1, d2, d3] => { results := [.lit (.bool true)], args := [d1, d2, d3] }
  | _ => none }
def trackMoreRow : OpenClaim := { program := "ytpljdaahkiabkaa", sum := "d4d2f61463553f54a5e3d24f08f0efb5d4ba2c4ee5ef25300a2a20e9b963b14d", func := "clavier/clavierlaw15.TrackMore", spec := "trackMore", unfollowed := true, recurses := true, apart := false }
def TrackMoreSaid : Prop := trackMoreRow.holds Try.pinned (OpenSpec.ofChange trackMoreSpec)

/-- ITS FALSE NEIGHBOUR: 'it returns false'. Refute it at one input. -/
def trackMoreWrong : ChangeSpec := { name := "trackMore", fn := fun _ => fun
  | [d1, d2, d3] => { results := [.lit (.bool false)], args := [d1, d2, d3] }
  | _ => none }
def TrackMoreWrongFalsely : Prop := trackMoreRow.holds Try.pinned (OpenSpec.ofChange trackMoreWrong)

/-- 'clavierlaw15.TrackOnce': WHATEVER THE INPUT: true; the input reads as it did. -/
def trackOnceSpec : ChangeSpec := { name := "trackOnce", fn := fun _ => fun
  | [d1, d2] => { results := [.lit (.bool true)], args := [d1, d2] }
  | _ => none }
def trackOnceRow : OpenClaim := { program := "ytpljdaahkiabkaa", sum := "d4d2f61463553f54a5e3d24f08f0efb5d4ba2c4ee5ef25300a2a20e9b963b14d", func := "clavier/clavierlaw15.TrackOnce", spec := "trackOnce", unfollowed := true, recurses := true, apart := false }
def TrackOnceSaid : Prop := trackOnceRow.holds Try.pinned (OpenSpec.ofChange trackOnceSpec)

/-- ITS FALSE NEIGHBOUR: 'it returns false'. Refute it at one input. -/
def trackOnceWrong : ChangeSpec := { name := "trackOnce", fn := fun _ => fun
  | [d1, d2] => { results := [.lit (.bool false)], args := [d1, d2] }
  | _ => none }
def TrackOnceWrongFalsely : Prop := trackOnceRow.holds Try.pinned (OpenSpec.ofChange trackOnceWrong)

/-- 'clavierlaw15.TrackPresses': WHATEVER THE INPUT: true; the input reads as it did. -/
def trackPressesSpec : ChangeSpec := { name := "trackPresses", fn := fun _ => fun
  | [d1, d2, d3] => { results := [.lit (.bool true)], args := [d1, d2, d3] }
  | _ => none }
def trackPressesRow : OpenClaim := { program := "ytpljdaahkiabkaa", sum := "d4d2f61463553f54a5e3d24f08f0efb5d4ba2c4ee5ef25300a2a20e9b963b14d", func := "clavier/clavierlaw15.TrackPresses", spec := "trackPresses", unfollowed := true, recurses := true, apart := false }
def TrackPressesSaid : Prop := trackPressesRow.holds Try.pinned (OpenSpec.ofChange trackPressesSpec)

/-- ITS FALSE NEIGHBOUR: 'it returns false'. Refute it at one input. -/
def trackPressesWrong : ChangeSpec := { name := "trackPresses", fn := fun _ => fun
  | [d1, d2, d3] => { results := [.lit (.bool false)], args := [d1, d2, d3] }
  | _ => none }
def TrackPressesWrongFalsely : Prop := trackPressesRow.holds Try.pinned (OpenSpec.ofChange trackPressesWrong)

/-- 'clavierlaw15.TrackMay': WHATEVER THE INPUT: true; the input reads as it did. -/
def trackMaySpec : ChangeSpec := { name := "trackMay", fn := fun _ => fun
  | [d1, d2] => { results := [.lit (.bool true)], args := [d1, d2] }
  | _ => none }
def trackMayRow : OpenClaim := { program := "ytpljdaahkiabkaa", sum := "d4d2f61463553f54a5e3d24f08f0efb5d4ba2c4ee5ef25300a2a20e9b963b14d", func := "clavier/clavierlaw15.TrackMay", spec := "trackMay", unfollowed := true, recurses := true, apart := false }
def TrackMaySaid : Prop := trackMayRow.holds Try.pinned (OpenSpec.ofChange trackMaySpec)

/-- ITS FALSE NEIGHBOUR: 'it returns false'. Refute it at one input. -/
def trackMayWrong : ChangeSpec := { name := "trackMay", fn := fun _ => fun
  | [d1, d2] => { results := [.lit (.bool false)], args := [d1, d2] }
  | _ => none }
def TrackMayWrongFalsely : Prop := trackMayRow.holds Try.pinned (OpenSpec.ofChange trackMayWrong)

/-- 'clavierlaw15.TrackMoves': WHATEVER THE INPUT: true; the input reads as it did. -/
def trackMovesSpec : ChangeSpec := { name := "trackMoves", fn := fun _ => fun
  | [d1, d2, d3] => { results := [.lit (.bool true)], args := [d1, d2, d3] }
  | _ => none }
def trackMovesRow : OpenClaim := { program := "ytpljdaahkiabkaa", sum := "d4d2f61463553f54a5e3d24f08f0efb5d4ba2c4ee5ef25300a2a20e9b963b14d", func := "clavier/clavierlaw15.TrackMoves", spec := "trackMoves", unfollowed := true, recurses := true, apart := false }
def TrackMovesSaid : Prop := trackMovesRow.holds Try.pinned (OpenSpec.ofChange trackMovesSpec)

/-- ITS FALSE NEIGHBOUR: 'it returns false'. Refute it at one input. -/
def trackMovesWrong : ChangeSpec := { name := "trackMoves", fn := fun _ => fun
  | [d1, d2, d3] => { results := [.lit (.bool false)], args := [d1, d2, d3] }
  | _ => none }
def TrackMovesWrongFalsely : Prop := trackMovesRow.holds Try.pinned (OpenSpec.ofChange trackMovesWrong)

/- THE SECOND FORM. 'bulk': how many values and letters a reading holds, each counted each time it is reached (what is shared counts as often as it is met; a slice's spare places count too). A statement '..UptoSaid' is the law's where the arguments, and the package variables that the reading takes, are together of bulk at most 1048576: NARROWER than '..Said'. Prove '..Said' where nothing that the law and all that it calls make is longer than what came in: it says more and counts as full. Else prove '..UptoSaid'. A law counts once. -/
mutual
def uptoBulk {H : Type} : DataW H → Nat
  | .lit (.string bytes) => bytes.length + 1
  | .lit _ => 1
  | .nil => 1
  | .ptr d => uptoBulk d + 1
  | .slice elems spare => uptoBulkAll elems + uptoBulkAll spare + 1
  | .agg parts => uptoBulkAll parts + 1
  | .iface _ d => uptoBulk d + 1
  | .map entries => uptoBulkEntries entries + 1
  | .held _ => 1
def uptoBulkAll {H : Type} : List (DataW H) → Nat
  | [] => 0
  | d :: r => uptoBulk d + uptoBulkAll r
def uptoBulkEntries {H : Type} : List (Lit × DataW H) → Nat
  | [] => 0
  | x :: r => uptoBulkEntry x + uptoBulkEntries r
def uptoBulkEntry {H : Type} : Lit × DataW H → Nat
  | (.string bytes, d) => bytes.length + uptoBulk d + 1
  | (_, d) => uptoBulk d + 1
 end
def uptoSmall : (H : Type) → List (DataW H) → Bool := fun _ ds => decide (uptoBulkAll ds ≤ 1048576)
def OpenSpec.upto (s : _root_.Go.ChangeSpec) : _root_.Go.OpenSpec := { _root_.Go.OpenSpec.ofChange s with cond := some uptoSmall }

/-- 'clavierlaw15.TrackTells', WHERE WHAT IT READS IS OF BULK AT MOST 1048576: true; the input reads as it did. -/
def trackTellsUptoRow : OpenClaim := { program := "ytpljdaahkiabkaa", sum := "d4d2f61463553f54a5e3d24f08f0efb5d4ba2c4ee5ef25300a2a20e9b963b14d", func := "clavier/clavierlaw15.TrackTells", spec := "trackTells", unfollowed := true, recurses := true, apart := false, narrowed := true }
def TrackTellsUptoSaid : Prop := trackTellsUptoRow.holds Try.pinned (OpenSpec.upto trackTellsSpec)

/-- 'clavierlaw15.TrackMore', WHERE WHAT IT READS IS OF BULK AT MOST 1048576: true; the input reads as it did. -/
def trackMoreUptoRow : OpenClaim := { program := "ytpljdaahkiabkaa", sum := "d4d2f61463553f54a5e3d24f08f0efb5d4ba2c4ee5ef25300a2a20e9b963b14d", func := "clavier/clavierlaw15.TrackMore", spec := "trackMore", unfollowed := true, recurses := true, apart := false, narrowed := true }
def TrackMoreUptoSaid : Prop := trackMoreUptoRow.holds Try.pinned (OpenSpec.upto trackMoreSpec)

/-- 'clavierlaw15.TrackOnce', WHERE WHAT IT READS IS OF BULK AT MOST 1048576: true; the input reads as it did. -/
def trackOnceUptoRow : OpenClaim := { program := "ytpljdaahkiabkaa", sum := "d4d2f61463553f54a5e3d24f08f0efb5d4ba2c4ee5ef25300a2a20e9b963b14d", func := "clavier/clavierlaw15.TrackOnce", spec := "trackOnce", unfollowed := true, recurses := true, apart := false, narrowed := true }
def TrackOnceUptoSaid : Prop := trackOnceUptoRow.holds Try.pinned (OpenSpec.upto trackOnceSpec)

/-- 'clavierlaw15.TrackPresses', WHERE WHAT IT READS IS OF BULK AT MOST 1048576: true; the input reads as it did. -/
def trackPressesUptoRow : OpenClaim := { program := "ytpljdaahkiabkaa", sum := "d4d2f61463553f54a5e3d24f08f0efb5d4ba2c4ee5ef25300a2a20e9b963b14d", func := "clavier/clavierlaw15.TrackPresses", spec := "trackPresses", unfollowed := true, recurses := true, apart := false, narrowed := true }
def TrackPressesUptoSaid : Prop := trackPressesUptoRow.holds Try.pinned (OpenSpec.upto trackPressesSpec)

/-- 'clavierlaw15.TrackMay', WHERE WHAT IT READS IS OF BULK AT MOST 1048576: true; the input reads as it did. -/
def trackMayUptoRow : OpenClaim := { program := "ytpljdaahkiabkaa", sum := "d4d2f61463553f54a5e3d24f08f0efb5d4ba2c4ee5ef25300a2a20e9b963b14d", func := "clavier/clavierlaw15.TrackMay", spec := "trackMay", unfollowed := true, recurses := true, apart := false, narrowed := true }
def TrackMayUptoSaid : Prop := trackMayUptoRow.holds Try.pinned (OpenSpec.upto trackMaySpec)

/-- 'clavierlaw15.TrackMoves', WHERE WHAT IT READS IS OF BULK AT MOST 1048576: true; the input reads as it did. -/
def trackMovesUptoRow : OpenClaim := { program := "ytpljdaahkiabkaa", sum := "d4d2f61463553f54a5e3d24f08f0efb5d4ba2c4ee5ef25300a2a20e9b963b14d", func := "clavier/clavierlaw15.TrackMoves", spec := "trackMoves", unfollowed := true, recurses := true, apart := false, narrowed := true }
def TrackMovesUptoSaid : Prop := trackMovesUptoRow.holds Try.pinned (OpenSpec.upto trackMovesSpec)

end Rows
end Go.Proofs.Ytpljdaahkiabkaa
