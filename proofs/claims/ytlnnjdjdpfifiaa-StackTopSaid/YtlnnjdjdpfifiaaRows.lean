/-
  No cell of these rows narrows 'for every input' (looked for: loops, veiled, ifaces, maps, wideKeys, modest, calm, conditions, laid).
  DERIVED. THE GIVEN ROWS OF THIS SEAT. 6 by the template 'for every input the law returns true; each argument reads behind the call as it read before'; 0 by the template 'total and deterministic' (their statements: YtlnnjdjdpfifiaaTotals.lean).
  GIVEN WITH THE SEED: the statements are not yours to turn. If you find one false, say at which input.
  Laid BY PROGRAM, IN A SANDBOX (cutbox-rows.mjs): the forced cells as the released guide's own fill.sh prints them over the translation 8faf6dcab4f9fbf9… (all of the seat's roots in one cut). By AI agents, Wed Nov 11 2026. No macro, syntax, notation, axiom, sorry.
-/
import Derived.Test.YtlnnjdjdpfifiaaChecked
import GoSem.Claim
import GoSem.ClaimJoined
import GoSem.ClaimMapViews
import Derived.JoinedTies
import Derived.KernelRfl
namespace Go.Proofs.Ytlnnjdjdpfifiaa
/- THE CELL 'sum', in the pinned program and in every row, IS THE sha256 OF THE DUMP (.gsa) THAT YtlnnjdjdpfifiaaProg.lean LOADS. Nothing in Lean hashes anything: it is a label: what it is worth is what the hold of that sum in a sandbox is worth. -/
noncomputable def Try.pinned : Pinned := { name := "ytlnnjdjdpfifiaa", sum := "8faf6dcab4f9fbf99f82c952edae1c6be966ab3e6edebb5862f41d9b47bfe969", checked := Try.checked }
namespace Rows
def none {H : Type} : Left H := { results := [], args := [] }

/-- 'clavierlaw08.StackTells': WHATEVER THE INPUT: true; the input reads as it did. -/
def stackTellsSpec : ChangeSpec := { name := "stackTells", fn := fun _ => fun
  | [d1, d2, d3] => { results := [.lit (.bool true)], args := [d1, d2, d3] }
  | _ => none }
def stackTellsRow : OpenClaim := { program := "ytlnnjdjdpfifiaa", sum := "8faf6dcab4f9fbf99f82c952edae1c6be966ab3e6edebb5862f41d9b47bfe969", func := "clavier/clavierlaw08.StackTells", spec := "stackTells", unfollowed := true, recurses := true, apart := false }
def StackTellsSaid : Prop := stackTellsRow.holds Try.pinned (OpenSpec.ofChange stackTellsSpec)

/-- ITS FALSE NEIGHBOUR: 'it returns false'. Refute it at one input. -/
def stackTellsWrong : ChangeSpec := { name := "stackTells", fn := fun _ => fun
  | [d1, d2, d3] => { results := [.lit (.bool false)], args := [d1, d2, d3] }
  | _ => none }
def StackTellsWrongFalsely : Prop := stackTellsRow.holds Try.pinned (OpenSpec.ofChange stackTellsWrong)

/-- 'clavierlaw08.StackDeep': WHATEVER THE INPUT: true; the input reads as it did. -/
def stackDeepSpec : ChangeSpec := { name := "stackDeep", fn := fun _ => fun
  | [d1, d2] => { results := [.lit (.bool true)], args := [d1, d2] }
  | _ => none }
def stackDeepRow : OpenClaim := { program := "ytlnnjdjdpfifiaa", sum := "8faf6dcab4f9fbf99f82c952edae1c6be966ab3e6edebb5862f41d9b47bfe969", func := "clavier/clavierlaw08.StackDeep", spec := "stackDeep", unfollowed := true, recurses := true, apart := false }
def StackDeepSaid : Prop := stackDeepRow.holds Try.pinned (OpenSpec.ofChange stackDeepSpec)

/-- ITS FALSE NEIGHBOUR: 'it returns false'. Refute it at one input. -/
def stackDeepWrong : ChangeSpec := { name := "stackDeep", fn := fun _ => fun
  | [d1, d2] => { results := [.lit (.bool false)], args := [d1, d2] }
  | _ => none }
def StackDeepWrongFalsely : Prop := stackDeepRow.holds Try.pinned (OpenSpec.ofChange stackDeepWrong)

/-- 'clavierlaw08.StackBack': WHATEVER THE INPUT: true; the input reads as it did. -/
def stackBackSpec : ChangeSpec := { name := "stackBack", fn := fun _ => fun
  | [d1, d2] => { results := [.lit (.bool true)], args := [d1, d2] }
  | _ => none }
def stackBackRow : OpenClaim := { program := "ytlnnjdjdpfifiaa", sum := "8faf6dcab4f9fbf99f82c952edae1c6be966ab3e6edebb5862f41d9b47bfe969", func := "clavier/clavierlaw08.StackBack", spec := "stackBack", unfollowed := true, recurses := true, apart := false }
def StackBackSaid : Prop := stackBackRow.holds Try.pinned (OpenSpec.ofChange stackBackSpec)

/-- ITS FALSE NEIGHBOUR: 'it returns false'. Refute it at one input. -/
def stackBackWrong : ChangeSpec := { name := "stackBack", fn := fun _ => fun
  | [d1, d2] => { results := [.lit (.bool false)], args := [d1, d2] }
  | _ => none }
def StackBackWrongFalsely : Prop := stackBackRow.holds Try.pinned (OpenSpec.ofChange stackBackWrong)

/-- 'clavierlaw08.StackPops': WHATEVER THE INPUT: true; the input reads as it did. -/
def stackPopsSpec : ChangeSpec := { name := "stackPops", fn := fun _ => fun
  | [d1, d2, d3] => { results := [.lit (.bool true)], args := [d1, d2, d3] }
  | _ => none }
def stackPopsRow : OpenClaim := { program := "ytlnnjdjdpfifiaa", sum := "8faf6dcab4f9fbf99f82c952edae1c6be966ab3e6edebb5862f41d9b47bfe969", func := "clavier/clavierlaw08.StackPops", spec := "stackPops", unfollowed := true, recurses := true, apart := false }
def StackPopsSaid : Prop := stackPopsRow.holds Try.pinned (OpenSpec.ofChange stackPopsSpec)

/-- ITS FALSE NEIGHBOUR: 'it returns false'. Refute it at one input. -/
def stackPopsWrong : ChangeSpec := { name := "stackPops", fn := fun _ => fun
  | [d1, d2, d3] => { results := [.lit (.bool false)], args := [d1, d2, d3] }
  | _ => none }
def StackPopsWrongFalsely : Prop := stackPopsRow.holds Try.pinned (OpenSpec.ofChange stackPopsWrong)

/-- 'clavierlaw08.StackPuts': WHATEVER THE INPUT: true; the input reads as it did. -/
def stackPutsSpec : ChangeSpec := { name := "stackPuts", fn := fun _ => fun
  | [d1, d2, d3] => { results := [.lit (.bool true)], args := [d1, d2, d3] }
  | _ => none }
def stackPutsRow : OpenClaim := { program := "ytlnnjdjdpfifiaa", sum := "8faf6dcab4f9fbf99f82c952edae1c6be966ab3e6edebb5862f41d9b47bfe969", func := "clavier/clavierlaw08.StackPuts", spec := "stackPuts", unfollowed := true, recurses := true, apart := false }
def StackPutsSaid : Prop := stackPutsRow.holds Try.pinned (OpenSpec.ofChange stackPutsSpec)

/-- ITS FALSE NEIGHBOUR: 'it returns false'. Refute it at one input. -/
def stackPutsWrong : ChangeSpec := { name := "stackPuts", fn := fun _ => fun
  | [d1, d2, d3] => { results := [.lit (.bool false)], args := [d1, d2, d3] }
  | _ => none }
def StackPutsWrongFalsely : Prop := stackPutsRow.holds Try.pinned (OpenSpec.ofChange stackPutsWrong)

/-- 'clavierlaw08.StackTop': WHATEVER THE INPUT: true; the input reads as it did. -/
def stackTopSpec : ChangeSpec := { name := "stackTop", fn := fun _ => fun
  | [d1, d2] => { results := [.lit (.bool true)], args := [d1, d2] }
  | _ => none }
def stackTopRow : OpenClaim := { program := "ytlnnjdjdpfifiaa", sum := "8faf6dcab4f9fbf99f82c952edae1c6be966ab3e6edebb5862f41d9b47bfe969", func := "clavier/clavierlaw08.StackTop", spec := "stackTop", unfollowed := true, recurses := true, apart := false }
def StackTopSaid : Prop := stackTopRow.holds Try.pinned (OpenSpec.ofChange stackTopSpec)

/-- ITS FALSE NEIGHBOUR: 'it returns false'. Refute it at one input. -/
def stackTopWrong : ChangeSpec := { name := "stackTop", fn := fun _ => fun
  | [d1, d2] => { results := [.lit (.bool false)], args := [d1, d2] }
  | _ => none }
def StackTopWrongFalsely : Prop := stackTopRow.holds Try.pinned (OpenSpec.ofChange stackTopWrong)

/- THE SECOND FORM. 'bulk': how many values and letters a reading holds, each counted each time it is reached (what is shared counts as often as it is met; a slice's spare places count too). A statement '..UptoSaid' is the law's where the arguments, and the package variables that the reading takes, are together of bulk at most 1048576: NARROWER than '..Said'. Prove '..Said' where nothing that the law and all that it calls make is longer than what came in: it says more and counts as full. Else prove '..UptoSaid'. A law counts once. -/
mutual
def uptoBulk {H : Type} : DataW H → Nat
  | .lit (.string bytes) => bytes.length + 1
  | .lit _ => 1
  | .nil => 1
  | .ptr d => uptoBulk d + 1
  | .slice elems spare => uptoBulkAll elems + uptoBulkAll spare + 1
  | .agg parts => uptoBulkAll parts + 1
  | .iface _ d => uptoBulk d + 1
  | .map entries => uptoBulkEntries entries + 1
  | .held _ => 1
def uptoBulkAll {H : Type} : List (DataW H) → Nat
  | [] => 0
  | d :: r => uptoBulk d + uptoBulkAll r
def uptoBulkEntries {H : Type} : List (Lit × DataW H) → Nat
  | [] => 0
  | x :: r => uptoBulkEntry x + uptoBulkEntries r
def uptoBulkEntry {H : Type} : Lit × DataW H → Nat
  | (.string bytes, d) => bytes.length + uptoBulk d + 1
  | (_, d) => uptoBulk d + 1
 end
def uptoSmall : (H : Type) → List (DataW H) → Bool := fun _ ds => decide (uptoBulkAll ds ≤ 1048576)
def OpenSpec.upto (s : _root_.Go.ChangeSpec) : _root_.Go.OpenSpec := { _root_.Go.OpenSpec.ofChange s with cond := some uptoSmall }

/-- 'clavierlaw08.StackTells', WHERE WHAT IT READS IS OF BULK AT MOST 1048576: true; the input reads as it did. -/
def stackTellsUptoRow : OpenClaim := { program := "ytlnnjdjdpfifiaa", sum := "8faf6dcab4f9fbf99f82c952edae1c6be966ab3e6edebb5862f41d9b47bfe969", func := "clavier/clavierlaw08.StackTells", spec := "stackTells", unfollowed := true, recurses := true, apart := false, narrowed := true }
def StackTellsUptoSaid : Prop := stackTellsUptoRow.holds Try.pinned (OpenSpec.upto stackTellsSpec)

/-- 'clavierlaw08.StackDeep', WHERE WHAT IT READS IS OF BULK AT MOST 1048576: true; the input reads as it did. -/
def stackDeepUptoRow : OpenClaim := { program := "ytlnnjdjdpfifiaa", sum := "8faf6dcab4f9fbf99f82c952edae1c6be966ab3e6edebb5862f41d9b47bfe969", func := "clavier/clavierlaw08.StackDeep", spec := "stackDeep", unfollowed := true, recurses := true, apart := false, narrowed := true }
def StackDeepUptoSaid : Prop := stackDeepUptoRow.holds Try.pinned (OpenSpec.upto stackDeepSpec)

/-- 'clavierlaw08.StackBack', WHERE WHAT IT READS IS OF BULK AT MOST 1048576: true; the input reads as it did. -/
def stackBackUptoRow : OpenClaim := { program := "ytlnnjdjdpfifiaa", sum := "8faf6dcab4f9fbf99f82c952edae1c6be966ab3e6edebb5862f41d9b47bfe969", func := "clavier/clavierlaw08.StackBack", spec := "stackBack", unfollowed := true, recurses := true, apart := false, narrowed := true }
def StackBackUptoSaid : Prop := stackBackUptoRow.holds Try.pinned (OpenSpec.upto stackBackSpec)

/-- 'clavierlaw08.StackPops', WHERE WHAT IT READS IS OF BULK AT MOST 1048576: true; the input reads as it did. -/
def stackPopsUptoRow : OpenClaim := { program := "ytlnnjdjdpfifiaa", sum := "8faf6dcab4f9fbf99f82c952edae1c6be966ab3e6edebb5862f41d9b47bfe969", func := "clavier/clavierlaw08.StackPops", spec := "stackPops", unfollowed := true, recurses := true, apart := false, narrowed := true }
def StackPopsUptoSaid : Prop := stackPopsUptoRow.holds Try.pinned (OpenSpec.upto stackPopsSpec)

/-- 'clavierlaw08.StackPuts', WHERE WHAT IT READS IS OF BULK AT MOST 1048576: true; the input reads as it did. -/
def stackPutsUptoRow : OpenClaim := { program := "ytlnnjdjdpfifiaa", sum := "8faf6dcab4f9fbf99f82c952edae1c6be966ab3e6edebb5862f41d9b47bfe969", func := "clavier/clavierlaw08.StackPuts", spec := "stackPuts", unfollowed := true, recurses := true, apart := false, narrowed := true }
def StackPutsUptoSaid : Prop := stackPutsUptoRow.holds Try.pinned (OpenSpec.upto stackPutsSpec)

/-- 'clavierlaw08.StackTop', WHERE WHAT IT READS IS OF BULK AT MOST 1048576: true; the input reads as it did. -/
def stackTopUptoRow : OpenClaim := { program := "ytlnnjdjdpfifiaa", sum := "8faf6dcab4f9fbf99f82c952edae1c6be966ab3e6edebb5862f41d9b47bfe969", func := "clavier/clavierlaw08.StackTop", spec := "stackTop", unfollowed := true, recurses := true, apart := false, narrowed := true }
def StackTopUptoSaid : Prop := stackTopUptoRow.holds Try.pinned (OpenSpec.upto stackTopSpec)

end Rows
end Go.Proofs.Ytlnnjdjdpfifiaa
