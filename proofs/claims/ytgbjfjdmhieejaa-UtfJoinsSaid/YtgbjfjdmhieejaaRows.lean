/-
  No cell of these rows narrows 'for every input' (looked for: loops, veiled, ifaces, maps, wideKeys, modest, calm, conditions, laid).
  DERIVED. THE GIVEN ROWS OF THIS SEAT. 6 by the template 'for every input the law returns true; each argument reads behind the call as it read before'; 0 by the template 'total and deterministic' (their statements: YtgbjfjdmhieejaaTotals.lean).
  GIVEN WITH THE SEED: the statements are not yours to turn. If you find one false, say at which input.
  Laid BY PROGRAM, IN A SANDBOX (cutbox-rows.mjs): the forced cells as the released guide's own fill.sh prints them over the translation bf44f7232ab24dda… (all of the seat's roots in one cut). By AI agents, Wed Nov 11 2026. No macro, syntax, notation, axiom, sorry.
-/
import Derived.Test.YtgbjfjdmhieejaaChecked
import GoSem.Claim
import GoSem.ClaimJoined
import GoSem.ClaimMapViews
import Derived.JoinedTies
import Derived.KernelRfl
namespace Go.Proofs.Ytgbjfjdmhieejaa
/- THE CELL 'sum', in the pinned program and in every row, IS THE sha256 OF THE DUMP (.gsa) THAT YtgbjfjdmhieejaaProg.lean LOADS. Nothing in Lean hashes anything: it is a label: what it is worth is what the hold of that sum in a sandbox is worth. -/
noncomputable def Try.pinned : Pinned := { name := "ytgbjfjdmhieejaa", sum := "bf44f7232ab24dda7335c9dd998659ca559741f3f8f1187afebc7c3abc35fd31", checked := Try.checked }
namespace Rows
def none {H : Type} : Left H := { results := [], args := [] }

/-- 'clavierlaw02.UtfPuts': WHATEVER THE INPUT: true; the input reads as it did. -/
def utfPutsSpec : ChangeSpec := { name := "utfPuts", fn := fun _ => fun
  | [d1, d2] => { results := [.lit (.bool true)], args := [d1, d2] }
  | _ => none }
def utfPutsRow : OpenClaim := { program := "ytgbjfjdmhieejaa", sum := "bf44f7232ab24dda7335c9dd998659ca559741f3f8f1187afebc7c3abc35fd31", func := "clavier/clavierlaw02.UtfPuts", spec := "utfPuts", unfollowed := true, recurses := true, apart := false }
def UtfPutsSaid : Prop := utfPutsRow.holds Try.pinned (OpenSpec.ofChange utfPutsSpec)

/-- ITS FALSE NEIGHBOUR: 'it returns false'. Refute it at one input. -/
def utfPutsWrong : ChangeSpec := { name := "utfPuts", fn := fun _ => fun
  | [d1, d2] => { results := [.lit (.bool false)], args := [d1, d2] }
  | _ => none }
def UtfPutsWrongFalsely : Prop := utfPutsRow.holds Try.pinned (OpenSpec.ofChange utfPutsWrong)

/-- 'clavierlaw02.UtfBack': WHATEVER THE INPUT: true; the input reads as it did. -/
def utfBackSpec : ChangeSpec := { name := "utfBack", fn := fun _ => fun
  | [d1, d2] => { results := [.lit (.bool true)], args := [d1, d2] }
  | _ => none }
def utfBackRow : OpenClaim := { program := "ytgbjfjdmhieejaa", sum := "bf44f7232ab24dda7335c9dd998659ca559741f3f8f1187afebc7c3abc35fd31", func := "clavier/clavierlaw02.UtfBack", spec := "utfBack", unfollowed := true, recurses := true, apart := false }
def UtfBackSaid : Prop := utfBackRow.holds Try.pinned (OpenSpec.ofChange utfBackSpec)

/-- ITS FALSE NEIGHBOUR: 'it returns false'. Refute it at one input. -/
def utfBackWrong : ChangeSpec := { name := "utfBack", fn := fun _ => fun
  | [d1, d2] => { results := [.lit (.bool false)], args := [d1, d2] }
  | _ => none }
def UtfBackWrongFalsely : Prop := utfBackRow.holds Try.pinned (OpenSpec.ofChange utfBackWrong)

/-- 'clavierlaw02.UtfJoins': WHATEVER THE INPUT: true; the input reads as it did. -/
def utfJoinsSpec : ChangeSpec := { name := "utfJoins", fn := fun _ => fun
  | [d1, d2] => { results := [.lit (.bool true)], args := [d1, d2] }
  | _ => none }
def utfJoinsRow : OpenClaim := { program := "ytgbjfjdmhieejaa", sum := "bf44f7232ab24dda7335c9dd998659ca559741f3f8f1187afebc7c3abc35fd31", func := "clavier/clavierlaw02.UtfJoins", spec := "utfJoins", unfollowed := true, recurses := true, apart := false }
def UtfJoinsSaid : Prop := utfJoinsRow.holds Try.pinned (OpenSpec.ofChange utfJoinsSpec)

/-- ITS FALSE NEIGHBOUR: 'it returns false'. Refute it at one input. -/
def utfJoinsWrong : ChangeSpec := { name := "utfJoins", fn := fun _ => fun
  | [d1, d2] => { results := [.lit (.bool false)], args := [d1, d2] }
  | _ => none }
def UtfJoinsWrongFalsely : Prop := utfJoinsRow.holds Try.pinned (OpenSpec.ofChange utfJoinsWrong)

/-- 'clavierlaw02.UtfOrder': WHATEVER THE INPUT: true; the input reads as it did. -/
def utfOrderSpec : ChangeSpec := { name := "utfOrder", fn := fun _ => fun
  | [d1, d2] => { results := [.lit (.bool true)], args := [d1, d2] }
  | _ => none }
def utfOrderRow : OpenClaim := { program := "ytgbjfjdmhieejaa", sum := "bf44f7232ab24dda7335c9dd998659ca559741f3f8f1187afebc7c3abc35fd31", func := "clavier/clavierlaw02.UtfOrder", spec := "utfOrder", unfollowed := true, recurses := true, apart := false }
def UtfOrderSaid : Prop := utfOrderRow.holds Try.pinned (OpenSpec.ofChange utfOrderSpec)

/-- ITS FALSE NEIGHBOUR: 'it returns false'. Refute it at one input. -/
def utfOrderWrong : ChangeSpec := { name := "utfOrder", fn := fun _ => fun
  | [d1, d2] => { results := [.lit (.bool false)], args := [d1, d2] }
  | _ => none }
def UtfOrderWrongFalsely : Prop := utfOrderRow.holds Try.pinned (OpenSpec.ofChange utfOrderWrong)

/-- 'clavierlaw02.UtfAll': WHATEVER THE INPUT: true; the input reads as it did. -/
def utfAllSpec : ChangeSpec := { name := "utfAll", fn := fun _ => fun
  | [d1, d2] => { results := [.lit (.bool true)], args := [d1, d2] }
  | _ => none }
def utfAllRow : OpenClaim := { program := "ytgbjfjdmhieejaa", sum := "bf44f7232ab24dda7335c9dd998659ca559741f3f8f1187afebc7c3abc35fd31", func := "clavier/clavierlaw02.UtfAll", spec := "utfAll", unfollowed := true, recurses := true, apart := false }
def UtfAllSaid : Prop := utfAllRow.holds Try.pinned (OpenSpec.ofChange utfAllSpec)

/-- ITS FALSE NEIGHBOUR: 'it returns false'. Refute it at one input. -/
def utfAllWrong : ChangeSpec := { name := "utfAll", fn := fun _ => fun
  | [d1, d2] => { results := [.lit (.bool false)], args := [d1, d2] }
  | _ => none }
def UtfAllWrongFalsely : Prop := utfAllRow.holds Try.pinned (OpenSpec.ofChange utfAllWrong)

/-- 'clavierlaw02.UtfLists': WHATEVER THE INPUT: true; the input reads as it did. -/
def utfListsSpec : ChangeSpec := { name := "utfLists", fn := fun _ => fun
  | [d1, d2] => { results := [.lit (.bool true)], args := [d1, d2] }
  | _ => none }
def utfListsRow : OpenClaim := { program := "ytgbjfjdmhieejaa", sum := "bf44f7232ab24dda7335c9dd998659ca559741f3f8f1187afebc7c3abc35fd31", func := "clavier/clavierlaw02.UtfLists", spec := "utfLists", unfollowed := true, recurses := true, apart := false }
def UtfListsSaid : Prop := utfListsRow.holds Try.pinned (OpenSpec.ofChange utfListsSpec)

/-- ITS FALSE NEIGHBOUR: 'it returns false'. Refute it at one input. -/
def utfListsWrong : ChangeSpec := { name := "utfLists", fn := fun _ => fun
  | [d1, d2] => { results := [.lit (.bool false)], args := [d1, d2] }
  | _ => none }
def UtfListsWrongFalsely : Prop := utfListsRow.holds Try.pinned (OpenSpec.ofChange utfListsWrong)

/- THE SECOND FORM. 'bulk': how many values and letters a reading holds, each counted each time it is reached (what is shared counts as often as it is met; a slice's spare places count too). A statement '..UptoSaid' is the law's where the arguments, and the package variables that the reading takes, are together of bulk at most 1048576: NARROWER than '..Said'. Prove '..Said' where nothing that the law and all that it calls make is longer than what came in: it says more and counts as full. Else prove '..UptoSaid'. A law counts once. -/
mutual
def uptoBulk {H : Type} : DataW H → Nat
  | .lit (.string bytes) => bytes.length + 1
  | .lit _ => 1
  | .nil => 1
  | .ptr d => uptoBulk d + 1
  | .slice elems spare => uptoBulkAll elems + uptoBulkAll spare + 1
  | .agg parts => uptoBulkAll parts + 1
  | .iface _ d => uptoBulk d + 1
  | .map entries => uptoBulkEntries entries + 1
  | .held _ => 1
def uptoBulkAll {H : Type} : List (DataW H) → Nat
  | [] => 0
  | d :: r => uptoBulk d + uptoBulkAll r
def uptoBulkEntries {H : Type} : List (Lit × DataW H) → Nat
  | [] => 0
  | x :: r => uptoBulkEntry x + uptoBulkEntries r
def uptoBulkEntry {H : Type} : Lit × DataW H → Nat
  | (.string bytes, d) => bytes.length + uptoBulk d + 1
  | (_, d) => uptoBulk d + 1
 end
def uptoSmall : (H : Type) → List (DataW H) → Bool := fun _ ds => decide (uptoBulkAll ds ≤ 1048576)
def OpenSpec.upto (s : _root_.Go.ChangeSpec) : _root_.Go.OpenSpec := { _root_.Go.OpenSpec.ofChange s with cond := some uptoSmall }

/-- 'clavierlaw02.UtfPuts', WHERE WHAT IT READS IS OF BULK AT MOST 1048576: true; the input reads as it did. -/
def utfPutsUptoRow : OpenClaim := { program := "ytgbjfjdmhieejaa", sum := "bf44f7232ab24dda7335c9dd998659ca559741f3f8f1187afebc7c3abc35fd31", func := "clavier/clavierlaw02.UtfPuts", spec := "utfPuts", unfollowed := true, recurses := true, apart := false, narrowed := true }
def UtfPutsUptoSaid : Prop := utfPutsUptoRow.holds Try.pinned (OpenSpec.upto utfPutsSpec)

/-- 'clavierlaw02.UtfBack', WHERE WHAT IT READS IS OF BULK AT MOST 1048576: true; the input reads as it did. -/
def utfBackUptoRow : OpenClaim := { program := "ytgbjfjdmhieejaa", sum := "bf44f7232ab24dda7335c9dd998659ca559741f3f8f1187afebc7c3abc35fd31", func := "clavier/clavierlaw02.UtfBack", spec := "utfBack", unfollowed := true, recurses := true, apart := false, narrowed := true }
def UtfBackUptoSaid : Prop := utfBackUptoRow.holds Try.pinned (OpenSpec.upto utfBackSpec)

/-- 'clavierlaw02.UtfJoins', WHERE WHAT IT READS IS OF BULK AT MOST 1048576: true; the input reads as it did. -/
def utfJoinsUptoRow : OpenClaim := { program := "ytgbjfjdmhieejaa", sum := "bf44f7232ab24dda7335c9dd998659ca559741f3f8f1187afebc7c3abc35fd31", func := "clavier/clavierlaw02.UtfJoins", spec := "utfJoins", unfollowed := true, recurses := true, apart := false, narrowed := true }
def UtfJoinsUptoSaid : Prop := utfJoinsUptoRow.holds Try.pinned (OpenSpec.upto utfJoinsSpec)

/-- 'clavierlaw02.UtfOrder', WHERE WHAT IT READS IS OF BULK AT MOST 1048576: true; the input reads as it did. -/
def utfOrderUptoRow : OpenClaim := { program := "ytgbjfjdmhieejaa", sum := "bf44f7232ab24dda7335c9dd998659ca559741f3f8f1187afebc7c3abc35fd31", func := "clavier/clavierlaw02.UtfOrder", spec := "utfOrder", unfollowed := true, recurses := true, apart := false, narrowed := true }
def UtfOrderUptoSaid : Prop := utfOrderUptoRow.holds Try.pinned (OpenSpec.upto utfOrderSpec)

/-- 'clavierlaw02.UtfAll', WHERE WHAT IT READS IS OF BULK AT MOST 1048576: true; the input reads as it did. -/
def utfAllUptoRow : OpenClaim := { program := "ytgbjfjdmhieejaa", sum := "bf44f7232ab24dda7335c9dd998659ca559741f3f8f1187afebc7c3abc35fd31", func := "clavier/clavierlaw02.UtfAll", spec := "utfAll", unfollowed := true, recurses := true, apart := false, narrowed := true }
def UtfAllUptoSaid : Prop := utfAllUptoRow.holds Try.pinned (OpenSpec.upto utfAllSpec)

/-- 'clavierlaw02.UtfLists', WHERE WHAT IT READS IS OF BULK AT MOST 1048576: true; the input reads as it did. -/
def utfListsUptoRow : OpenClaim := { program := "ytgbjfjdmhieejaa", sum := "bf44f7232ab24dda7335c9dd998659ca559741f3f8f1187afebc7c3abc35fd31", func := "clavier/clavierlaw02.UtfLists", spec := "utfLists", unfollowed := true, recurses := true, apart := false, narrowed := true }
def UtfListsUptoSaid : Prop := utfListsUptoRow.holds Try.pinned (OpenSpec.upto utfListsSpec)

end Rows
end Go.Proofs.Ytgbjfjdmhieejaa
