/-
  No cell of these rows narrows 'for every input' (looked for: loops, veiled, ifaces, maps, wideKeys, modest, calm, conditions, laid).
  DERIVED. THE GIVEN ROWS OF THIS SEAT. 6 by the template 'for every input the law returns true; each argument reads behind the call as it read before'; 0 by the template 'total and deterministic' (their statements: YtcjokajnlpcdiaaTotals.lean).
  GIVEN WITH THE SEED: the statements are not yours to turn. If you find one false, say at which input.
  Laid BY PROGRAM, IN A SANDBOX (cutbox-rows.mjs): the forced cells as the released guide's own fill.sh prints them over the translation b6609bd2d7225ffd… (all of the seat's roots in one cut). By AI agents, Wed Nov 11 2026. No macro, syntax, notation, axiom, sorry.
-/
import Derived.Test.YtcjokajnlpcdiaaChecked
import GoSem.Claim
import GoSem.ClaimJoined
import GoSem.ClaimMapViews
import Derived.JoinedTies
import Derived.KernelRfl
namespace Go.Proofs.Ytcjokajnlpcdiaa
/- THE CELL 'sum', in the pinned program and in every row, IS THE sha256 OF THE DUMP (.gsa) THAT YtcjokajnlpcdiaaProg.lean LOADS. Nothing in Lean hashes anything: it is a label: what it is worth is what the hold of that sum in a sandbox is worth. -/
noncomputable def Try.pinned : Pinned := { name := "ytcjokajnlpcdiaa", sum := "b6609bd2d7225ffd3b4179e4d7974081fe3233c4ce61b293f27273b964da0898", checked := Try.checked }
namespace Rows
def none {H : Type} : Left H := { results := [], args := [] }

/-- 'clavierlaw10.ModsMay': WHATEVER THE INPUT: true; the input reads as it did. -/
def modsMaySpec : ChangeSpec := { name := "modsMay", fn := fun _ => fun
  | [d] => { results := [.lit (.bool true)], args := [d] }
  | _ => none }
def modsMayRow : OpenClaim := { program := "ytcjokajnlpcdiaa", sum := "b6609bd2d7225ffd3b4179e4d7974081fe3233c4ce61b293f27273b964da0898", func := "clavier/clavierlaw10.ModsMay", spec := "modsMay", unfollowed := true, recurses := true, apart := false }
def ModsMaySaid : Prop := modsMayRow.holds Try.pinned (OpenSpec.ofChange modsMaySpec)

/-- ITS FALSE NEIGHBOUR: 'it returns false'. Refute it at one input. -/
def modsMayWrong : ChangeSpec := { name := "modsMay", fn := fun _ => fun
  | [d] => { results := [.lit (.bool false)], args := [d] }
  | _ => none }
def ModsMayWrongFalsely : Prop := modsMayRow.holds Try.pinned (OpenSpec.ofChange modsMayWrong)

/-- 'clavierlaw10.ModsFold': WHATEVER THE INPUT: true; the input reads as it did. -/
def modsFoldSpec : ChangeSpec := { name := "modsFold", fn := fun _ => fun
  | [d] => { results := [.lit (.bool true)], args := [d] }
  | _ => none }
def modsFoldRow : OpenClaim := { program := "ytcjokajnlpcdiaa", sum := "b6609bd2d7225ffd3b4179e4d7974081fe3233c4ce61b293f27273b964da0898", func := "clavier/clavierlaw10.ModsFold", spec := "modsFold", unfollowed := true, recurses := true, apart := false }
def ModsFoldSaid : Prop := modsFoldRow.holds Try.pinned (OpenSpec.ofChange modsFoldSpec)

/-- ITS FALSE NEIGHBOUR: 'it returns false'. Refute it at one input. -/
def modsFoldWrong : ChangeSpec := { name := "modsFold", fn := fun _ => fun
  | [d] => { results := [.lit (.bool false)], args := [d] }
  | _ => none }
def ModsFoldWrongFalsely : Prop := modsFoldRow.holds Try.pinned (OpenSpec.ofChange modsFoldWrong)

/-- 'clavierlaw10.ModsCase': WHATEVER THE INPUT: true; the input reads as it did. -/
def modsCaseSpec : ChangeSpec := { name := "modsCase", fn := fun _ => fun
  | [d1, d2] => { results := [.lit (.bool true)], args := [d1, d2] }
  | _ => none }
def modsCaseRow : OpenClaim := { program := "ytcjokajnlpcdiaa", sum := "b6609bd2d7225ffd3b4179e4d7974081fe3233c4ce61b293f27273b964da0898", func := "clavier/clavierlaw10.ModsCase", spec := "modsCase", unfollowed := true, recurses := true, apart := false }
def ModsCaseSaid : Prop := modsCaseRow.holds Try.pinned (OpenSpec.ofChange modsCaseSpec)

/-- ITS FALSE NEIGHBOUR: 'it returns false'. Refute it at one input. -/
def modsCaseWrong : ChangeSpec := { name := "modsCase", fn := fun _ => fun
  | [d1, d2] => { results := [.lit (.bool false)], args := [d1, d2] }
  | _ => none }
def ModsCaseWrongFalsely : Prop := modsCaseRow.holds Try.pinned (OpenSpec.ofChange modsCaseWrong)

/-- 'clavierlaw10.ModsLess': WHATEVER THE INPUT: true; the input reads as it did. -/
def modsLessSpec : ChangeSpec := { name := "modsLess", fn := fun _ => fun
  | [d1, d2] => { results := [.lit (.bool true)], args := [d1, d2] }
  | _ => none }
def modsLessRow : OpenClaim := { program := "ytcjokajnlpcdiaa", sum := "b6609bd2d7225ffd3b4179e4d7974081fe3233c4ce61b293f27273b964da0898", func := "clavier/clavierlaw10.ModsLess", spec := "modsLess", unfollowed := true, recurses := true, apart := false }
def ModsLessSaid : Prop := modsLessRow.holds Try.pinned (OpenSpec.ofChange modsLessSpec)

/-- ITS FALSE NEIGHBOUR: 'it returns false'. Refute it at one input. -/
def modsLessWrong : ChangeSpec := { name := "modsLess", fn := fun _ => fun
  | [d1, d2] => { results := [.lit (.bool false)], args := [d1, d2] }
  | _ => none }
def ModsLessWrongFalsely : Prop := modsLessRow.holds Try.pinned (OpenSpec.ofChange modsLessWrong)

/-- 'clavierlaw10.ModsNums': WHATEVER THE INPUT: true; the input reads as it did. -/
def modsNumsSpec : ChangeSpec := { name := "modsNums", fn := fun _ => fun
  | [d] => { results := [.lit (.bool true)], args := [d] }
  | _ => none }
def modsNumsRow : OpenClaim := { program := "ytcjokajnlpcdiaa", sum := "b6609bd2d7225ffd3b4179e4d7974081fe3233c4ce61b293f27273b964da0898", func := "clavier/clavierlaw10.ModsNums", spec := "modsNums", unfollowed := true, recurses := true, apart := false }
def ModsNumsSaid : Prop := modsNumsRow.holds Try.pinned (OpenSpec.ofChange modsNumsSpec)

/-- ITS FALSE NEIGHBOUR: 'it returns false'. Refute it at one input. -/
def modsNumsWrong : ChangeSpec := { name := "modsNums", fn := fun _ => fun
  | [d] => { results := [.lit (.bool false)], args := [d] }
  | _ => none }
def ModsNumsWrongFalsely : Prop := modsNumsRow.holds Try.pinned (OpenSpec.ofChange modsNumsWrong)

/-- 'clavierlaw10.ModsBack': WHATEVER THE INPUT: true; the input reads as it did. -/
def modsBackSpec : ChangeSpec := { name := "modsBack", fn := fun _ => fun
  | [d1, d2] => { results := [.lit (.bool true)], args := [d1, d2] }
  | _ => none }
def modsBackRow : OpenClaim := { program := "ytcjokajnlpcdiaa", sum := "b6609bd2d7225ffd3b4179e4d7974081fe3233c4ce61b293f27273b964da0898", func := "clavier/clavierlaw10.ModsBack", spec := "modsBack", unfollowed := true, recurses := true, apart := false }
def ModsBackSaid : Prop := modsBackRow.holds Try.pinned (OpenSpec.ofChange modsBackSpec)

/-- ITS FALSE NEIGHBOUR: 'it returns false'. Refute it at one input. -/
def modsBackWrong : ChangeSpec := { name := "modsBack", fn := fun _ => fun
  | [d1, d2] => { results := [.lit (.bool false)], args := [d1, d2] }
  | _ => none }
def ModsBackWrongFalsely : Prop := modsBackRow.holds Try.pinned (OpenSpec.ofChange modsBackWrong)

/- THE SECOND FORM. 'bulk': how many values and letters a reading holds, each counted each time it is reached (what is shared counts as often as it is met; a slice's spare places count too). A statement '..UptoSaid' is the law's where the arguments, and the package variables that the reading takes, are together of bulk at most 1048576: NARROWER than '..Said'. Prove '..Said' where nothing that the law and all that it calls make is longer than what came in: it says more and counts as full. Else prove '..UptoSaid'. A law counts once. -/
mutual
def uptoBulk {H : Type} : DataW H → Nat
  | .lit (.string bytes) => bytes.length + 1
  | .lit _ => 1
  | .nil => 1
  | .ptr d => uptoBulk d + 1
  | .slice elems spare => uptoBulkAll elems + uptoBulkAll spare + 1
  | .agg parts => uptoBulkAll parts + 1
  | .iface _ d => uptoBulk d + 1
  | .map entries => uptoBulkEntries entries + 1
  | .held _ => 1
def uptoBulkAll {H : Type} : List (DataW H) → Nat
  | [] => 0
  | d :: r => uptoBulk d + uptoBulkAll r
def uptoBulkEntries {H : Type} : List (Lit × DataW H) → Nat
  | [] => 0
  | x :: r => uptoBulkEntry x + uptoBulkEntries r
def uptoBulkEntry {H : Type} : Lit × DataW H → Nat
  | (.string bytes, d) => bytes.length + uptoBulk d + 1
  | (_, d) => uptoBulk d + 1
 end
def uptoSmall : (H : Type) → List (DataW H) → Bool := fun _ ds => decide (uptoBulkAll ds ≤ 1048576)
def OpenSpec.upto (s : _root_.Go.ChangeSpec) : _root_.Go.OpenSpec := { _root_.Go.OpenSpec.ofChange s with cond := some uptoSmall }

/-- 'clavierlaw10.ModsMay', WHERE WHAT IT READS IS OF BULK AT MOST 1048576: true; the input reads as it did. -/
def modsMayUptoRow : OpenClaim := { program := "ytcjokajnlpcdiaa", sum := "b6609bd2d7225ffd3b4179e4d7974081fe3233c4ce61b293f27273b964da0898", func := "clavier/clavierlaw10.ModsMay", spec := "modsMay", unfollowed := true, recurses := true, apart := false, narrowed := true }
def ModsMayUptoSaid : Prop := modsMayUptoRow.holds Try.pinned (OpenSpec.upto modsMaySpec)

/-- 'clavierlaw10.ModsFold', WHERE WHAT IT READS IS OF BULK AT MOST 1048576: true; the input reads as it did. -/
def modsFoldUptoRow : OpenClaim := { program := "ytcjokajnlpcdiaa", sum := "b6609bd2d7225ffd3b4179e4d7974081fe3233c4ce61b293f27273b964da0898", func := "clavier/clavierlaw10.ModsFold", spec := "modsFold", unfollowed := true, recurses := true, apart := false, narrowed := true }
def ModsFoldUptoSaid : Prop := modsFoldUptoRow.holds Try.pinned (OpenSpec.upto modsFoldSpec)

/-- 'clavierlaw10.ModsCase', WHERE WHAT IT READS IS OF BULK AT MOST 1048576: true; the input reads as it did. -/
def modsCaseUptoRow : OpenClaim := { program := "ytcjokajnlpcdiaa", sum := "b6609bd2d7225ffd3b4179e4d7974081fe3233c4ce61b293f27273b964da0898", func := "clavier/clavierlaw10.ModsCase", spec := "modsCase", unfollowed := true, recurses := true, apart := false, narrowed := true }
def ModsCaseUptoSaid : Prop := modsCaseUptoRow.holds Try.pinned (OpenSpec.upto modsCaseSpec)

/-- 'clavierlaw10.ModsLess', WHERE WHAT IT READS IS OF BULK AT MOST 1048576: true; the input reads as it did. -/
def modsLessUptoRow : OpenClaim := { program := "ytcjokajnlpcdiaa", sum := "b6609bd2d7225ffd3b4179e4d7974081fe3233c4ce61b293f27273b964da0898", func := "clavier/clavierlaw10.ModsLess", spec := "modsLess", unfollowed := true, recurses := true, apart := false, narrowed := true }
def ModsLessUptoSaid : Prop := modsLessUptoRow.holds Try.pinned (OpenSpec.upto modsLessSpec)

/-- 'clavierlaw10.ModsNums', WHERE WHAT IT READS IS OF BULK AT MOST 1048576: true; the input reads as it did. -/
def modsNumsUptoRow : OpenClaim := { program := "ytcjokajnlpcdiaa", sum := "b6609bd2d7225ffd3b4179e4d7974081fe3233c4ce61b293f27273b964da0898", func := "clavier/clavierlaw10.ModsNums", spec := "modsNums", unfollowed := true, recurses := true, apart := false, narrowed := true }
def ModsNumsUptoSaid : Prop := modsNumsUptoRow.holds Try.pinned (OpenSpec.upto modsNumsSpec)

/-- 'clavierlaw10.ModsBack', WHERE WHAT IT READS IS OF BULK AT MOST 1048576: true; the input reads as it did. -/
def modsBackUptoRow : OpenClaim := { program := "ytcjokajnlpcdiaa", sum := "b6609bd2d7225ffd3b4179e4d7974081fe3233c4ce61b293f27273b964da0898", func := "clavier/clavierlaw10.ModsBack", spec := "modsBack", unfollowed := true, recurses := true, apart := false, narrowed := true }
def ModsBackUptoSaid : Prop := modsBackUptoRow.holds Try.pinned (OpenSpec.upto modsBackSpec)

end Rows
end Go.Proofs.Ytcjokajnlpcdiaa
