/-
  No cell of these rows narrows 'for every input' (looked for: loops, veiled, ifaces, maps, wideKeys, modest, calm, conditions, laid).
  DERIVED. THE GIVEN ROWS OF THIS SEAT. 6 by the template 'for every input the law returns true; each argument reads behind the call as it read before'; 0 by the template 'total and deterministic' (their statements: YtkbepgelgcoihaaTotals.lean).
  GIVEN WITH THE SEED: the statements are not yours to turn. If you find one false, say at which input.
  Laid BY PROGRAM, IN A SANDBOX (cutbox-rows.mjs): the forced cells as the released guide's own fill.sh prints them over the translation 082763bf38c6b469… (all of the seat's roots in one cut). By AI agents, Wed Nov 11 2026. No macro, syntax, notation, axiom, sorry.
-/
import Derived.Test.YtkbepgelgcoihaaChecked
import GoSem.Claim
import GoSem.ClaimJoined
import GoSem.ClaimMapViews
import Derived.JoinedTies
import Derived.KernelRfl
namespace Go.Proofs.Ytkbepgelgcoihaa
/- THE CELL 'sum', in the pinned program and in every row, IS THE sha256 OF THE DUMP (.gsa) THAT YtkbepgelgcoihaaProg.lean LOADS. Nothing in Lean hashes anything: it is a label: what it is worth is what the hold of that sum in a sandbox is worth. -/
noncomputable def Try.pinned : Pinned := { name := "ytkbepgelgcoihaa", sum := "082763bf38c6b469a8f4302520cafcc8c4221d5eccf1df8914604897204d27d6", checked := Try.checked }
namespace Rows
def none {H : Type} : Left H := { results := [], args := [] }

/-- 'clavierlaw09.KeysLook': WHATEVER THE INPUT: true; the input reads as it did. -/
def keysLookSpec : ChangeSpec := { name := "keysLook", fn := fun _ => fun
  | [d] => { results := [.lit (.bool true)], args := [d] }
  | _ => none }
def keysLookRow : OpenClaim := { program := "ytkbepgelgcoihaa", sum := "082763bf38c6b469a8f4302520cafcc8c4221d5eccf1df8914604897204d27d6", func := "clavier/clavierlaw09.KeysLook", spec := "keysLook", unfollowed := true, recurses := true, apart := false }
def KeysLookSaid : Prop := keysLookRow.holds Try.pinned (OpenSpec.ofChange keysLookSpec)

/-- ITS FALSE NEIGHBOUR: 'it returns false'. Refute it at one input. -/
def keysLookWrong : ChangeSpec := { name := "keysLook", fn := fun _ => fun
  | [d] => { results := [.lit (.bool false)], args := [d] }
  | _ => none }
def KeysLookWrongFalsely : Prop := keysLookRow.holds Try.pinned (OpenSpec.ofChange keysLookWrong)

/-- 'clavierlaw09.KeysRow': WHATEVER THE INPUT: true; the input reads as it did. -/
def keysRowSpec : ChangeSpec := { name := "keysRow", fn := fun _ => fun
  | [d] => { results := [.lit (.bool true)], args := [d] }
  | _ => none }
def keysRowRow : OpenClaim := { program := "ytkbepgelgcoihaa", sum := "082763bf38c6b469a8f4302520cafcc8c4221d5eccf1df8914604897204d27d6", func := "clavier/clavierlaw09.KeysRow", spec := "keysRow", unfollowed := true, recurses := true, apart := false }
def KeysRowSaid : Prop := keysRowRow.holds Try.pinned (OpenSpec.ofChange keysRowSpec)

/-- ITS FALSE NEIGHBOUR: 'it returns false'. Refute it at one input. -/
def keysRowWrong : ChangeSpec := { name := "keysRow", fn := fun _ => fun
  | [d] => { results := [.lit (.bool false)], args := [d] }
  | _ => none }
def KeysRowWrongFalsely : Prop := keysRowRow.holds Try.pinned (OpenSpec.ofChange keysRowWrong)

/-- 'clavierlaw09.KeysFind': WHATEVER THE INPUT: true; the input reads as it did. -/
def keysFindSpec : ChangeSpec := { name := "keysFind", fn := fun _ => fun
  | [d1, d2] => { results := [.lit (.bool true)], args := [d1, d2] }
  | _ => none }
def keysFindRow : OpenClaim := { program := "ytkbepgelgcoihaa", sum := "082763bf38c6b469a8f4302520cafcc8c4221d5eccf1df8914604897204d27d6", func := "clavier/clavierlaw09.KeysFind", spec := "keysFind", unfollowed := true, recurses := true, apart := false }
def KeysFindSaid : Prop := keysFindRow.holds Try.pinned (OpenSpec.ofChange keysFindSpec)

/-- ITS FALSE NEIGHBOUR: 'it returns false'. Refute it at one input. -/
def keysFindWrong : ChangeSpec := { name := "keysFind", fn := fun _ => fun
  | [d1, d2] => { results := [.lit (.bool false)], args := [d1, d2] }
  | _ => none }
def KeysFindWrongFalsely : Prop := keysFindRow.holds Try.pinned (OpenSpec.ofChange keysFindWrong)

/-- 'clavierlaw09.KeysBack': WHATEVER THE INPUT: true; the input reads as it did. -/
def keysBackSpec : ChangeSpec := { name := "keysBack", fn := fun _ => fun
  | [d1, d2, d3] => { results := [.lit (.bool true)], args := [d1, d2, d3] }
  | _ => none }
def keysBackRow : OpenClaim := { program := "ytkbepgelgcoihaa", sum := "082763bf38c6b469a8f4302520cafcc8c4221d5eccf1df8914604897204d27d6", func := "clavier/clavierlaw09.KeysBack", spec := "keysBack", unfollowed := true, recurses := true, apart := false }
def KeysBackSaid : Prop := keysBackRow.holds Try.pinned (OpenSpec.ofChange keysBackSpec)

/-- ITS FALSE NEIGHBOUR: 'it returns false'. Refute it at one input. -/
def keysBackWrong : ChangeSpec := { name := "keysBack", fn := fun _ => fun
  | [d1, d2, d3] => { results := [.lit (.bool false)], args := [d1, d2, d3] }
  | _ => none }
def KeysBackWrongFalsely : Prop := keysBackRow.holds Try.pinned (OpenSpec.ofChange keysBackWrong)

/-- 'clavierlaw09.KeysKinds': WHATEVER THE INPUT: true; the input reads as it did. -/
def keysKindsSpec : ChangeSpec := { name := "keysKinds", fn := fun _ => fun
  | [d] => { results := [.lit (.bool true)], args := [d] }
  | _ => none }
def keysKindsRow : OpenClaim := { program := "ytkbepgelgcoihaa", sum := "082763bf38c6b469a8f4302520cafcc8c4221d5eccf1df8914604897204d27d6", func := "clavier/clavierlaw09.KeysKinds", spec := "keysKinds", unfollowed := true, recurses := true, apart := false }
def KeysKindsSaid : Prop := keysKindsRow.holds Try.pinned (OpenSpec.ofChange keysKindsSpec)

/-- ITS FALSE NEIGHBOUR: 'it returns false'. Refute it at one input. -/
def keysKindsWrong : ChangeSpec := { name := "keysKinds", fn := fun _ => fun
  | [d] => { results := [.lit (.bool false)], args := [d] }
  | _ => none }
def KeysKindsWrongFalsely : Prop := keysKindsRow.holds Try.pinned (OpenSpec.ofChange keysKindsWrong)

/-- 'clavierlaw09.KeysPad': WHATEVER THE INPUT: true; the input reads as it did. -/
def keysPadSpec : ChangeSpec := { name := "keysPad", fn := fun _ => fun
  | [d] => { results := [.lit (.bool true)], args := [d] }
  | _ => none }
def keysPadRow : OpenClaim := { program := "ytkbepgelgcoihaa", sum := "082763bf38c6b469a8f4302520cafcc8c4221d5eccf1df8914604897204d27d6", func := "clavier/clavierlaw09.KeysPad", spec := "keysPad", unfollowed := true, recurses := true, apart := false }
def KeysPadSaid : Prop := keysPadRow.holds Try.pinned (OpenSpec.ofChange keysPadSpec)

/-- ITS FALSE NEIGHBOUR: 'it returns false'. Refute it at one input. -/
def keysPadWrong : ChangeSpec := { name := "keysPad", fn := fun _ => fun
  | [d] => { results := [.lit (.bool false)], args := [d] }
  | _ => none }
def KeysPadWrongFalsely : Prop := keysPadRow.holds Try.pinned (OpenSpec.ofChange keysPadWrong)

/- THE SECOND FORM. 'bulk': how many values and letters a reading holds, each counted each time it is reached (what is shared counts as often as it is met; a slice's spare places count too). A statement '..UptoSaid' is the law's where the arguments, and the package variables that the reading takes, are together of bulk at most 1048576: NARROWER than '..Said'. Prove '..Said' where nothing that the law and all that it calls make is longer than what came in: it says more and counts as full. Else prove '..UptoSaid'. A law counts once. -/
mutual
def uptoBulk {H : Type} : DataW H → Nat
  | .lit (.string bytes) => bytes.length + 1
  | .lit _ => 1
  | .nil => 1
  | .ptr d => uptoBulk d + 1
  | .slice elems spare => uptoBulkAll elems + uptoBulkAll spare + 1
  | .agg parts => uptoBulkAll parts + 1
  | .iface _ d => uptoBulk d + 1
  | .map entries => uptoBulkEntries entries + 1
  | .held _ => 1
def uptoBulkAll {H : Type} : List (DataW H) → Nat
  | [] => 0
  | d :: r => uptoBulk d + uptoBulkAll r
def uptoBulkEntries {H : Type} : List (Lit × DataW H) → Nat
  | [] => 0
  | x :: r => uptoBulkEntry x + uptoBulkEntries r
def uptoBulkEntry {H : Type} : Lit × DataW H → Nat
  | (.string bytes, d) => bytes.length + uptoBulk d + 1
  | (_, d) => uptoBulk d + 1
 end
def uptoSmall : (H : Type) → List (DataW H) → Bool := fun _ ds => decide (uptoBulkAll ds ≤ 1048576)
def OpenSpec.upto (s : _root_.Go.ChangeSpec) : _root_.Go.OpenSpec := { _root_.Go.OpenSpec.ofChange s with cond := some uptoSmall }

/-- 'clavierlaw09.KeysLook', WHERE WHAT IT READS IS OF BULK AT MOST 1048576: true; the input reads as it did. -/
def keysLookUptoRow : OpenClaim := { program := "ytkbepgelgcoihaa", sum := "082763bf38c6b469a8f4302520cafcc8c4221d5eccf1df8914604897204d27d6", func := "clavier/clavierlaw09.KeysLook", spec := "keysLook", unfollowed := true, recurses := true, apart := false, narrowed := true }
def KeysLookUptoSaid : Prop := keysLookUptoRow.holds Try.pinned (OpenSpec.upto keysLookSpec)

/-- 'clavierlaw09.KeysRow', WHERE WHAT IT READS IS OF BULK AT MOST 1048576: true; the input reads as it did. -/
def keysRowUptoRow : OpenClaim := { program := "ytkbepgelgcoihaa", sum := "082763bf38c6b469a8f4302520cafcc8c4221d5eccf1df8914604897204d27d6", func := "clavier/clavierlaw09.KeysRow", spec := "keysRow", unfollowed := true, recurses := true, apart := false, narrowed := true }
def KeysRowUptoSaid : Prop := keysRowUptoRow.holds Try.pinned (OpenSpec.upto keysRowSpec)

/-- 'clavierlaw09.KeysFind', WHERE WHAT IT READS IS OF BULK AT MOST 1048576: true; the input reads as it did. -/
def keysFindUptoRow : OpenClaim := { program := "ytkbepgelgcoihaa", sum := "082763bf38c6b469a8f4302520cafcc8c4221d5eccf1df8914604897204d27d6", func := "clavier/clavierlaw09.KeysFind", spec := "keysFind", unfollowed := true, recurses := true, apart := false, narrowed := true }
def KeysFindUptoSaid : Prop := keysFindUptoRow.holds Try.pinned (OpenSpec.upto keysFindSpec)

/-- 'clavierlaw09.KeysBack', WHERE WHAT IT READS IS OF BULK AT MOST 1048576: true; the input reads as it did. -/
def keysBackUptoRow : OpenClaim := { program := "ytkbepgelgcoihaa", sum := "082763bf38c6b469a8f4302520cafcc8c4221d5eccf1df8914604897204d27d6", func := "clavier/clavierlaw09.KeysBack", spec := "keysBack", unfollowed := true, recurses := true, apart := false, narrowed := true }
def KeysBackUptoSaid : Prop := keysBackUptoRow.holds Try.pinned (OpenSpec.upto keysBackSpec)

/-- 'clavierlaw09.KeysKinds', WHERE WHAT IT READS IS OF BULK AT MOST 1048576: true; the input reads as it did. -/
def keysKindsUptoRow : OpenClaim := { program := "ytkbepgelgcoihaa", sum := "082763bf38c6b469a8f4302520cafcc8c4221d5eccf1df8914604897204d27d6", func := "clavier/clavierlaw09.KeysKinds", spec := "keysKinds", unfollowed := true, recurses := true, apart := false, narrowed := true }
def KeysKindsUptoSaid : Prop := keysKindsUptoRow.holds Try.pinned (OpenSpec.upto keysKindsSpec)

/-- 'clavierlaw09.KeysPad', WHERE WHAT IT READS IS OF BULK AT MOST 1048576: true; the input reads as it did. -/
def keysPadUptoRow : OpenClaim := { program := "ytkbepgelgcoihaa", sum := "082763bf38c6b469a8f4302520cafcc8c4221d5eccf1df8914604897204d27d6", func := "clavier/clavierlaw09.KeysPad", spec := "keysPad", unfollowed := true, recurses := true, apart := false, narrowed := true }
def KeysPadUptoSaid : Prop := keysPadUptoRow.holds Try.pinned (OpenSpec.upto keysPadSpec)

end Rows
end Go.Proofs.Ytkbepgelgcoihaa
