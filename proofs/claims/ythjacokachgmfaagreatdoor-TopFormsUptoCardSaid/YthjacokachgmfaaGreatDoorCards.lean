/-
  DERIVED. GIVEN WITH THE SEED: THE CARDS: each row of YthjacokachgmfaaGreatDoorRows.lean that lists a variable, with what it lists TIED to the program's text (the seventh form; the later family's looks); each row that meets fmt, with fmt's text TOLD by the authors' own Lean function (tested against real Go, not proved from fmt's source: count such statements apart). THE CARD IS WHAT COUNTS. Prove the row's statement (the work); the ties are given (YthjacokachgmfaaGreatDoorTie.lean); close each card by the builder's one call (the guide's Derived/Test/ToyasCard.lean, 'card_holds'). Laid BY PROGRAM, IN A SANDBOX (cutbox-door.mjs). By AI agents, Wed Nov 11 2026. No macro, syntax, notation, axiom, sorry.
-/
import Derived.Test.YthjacokachgmfaaGreatDoorRows
import GoSem.ClaimSeven
namespace Go.Proofs.YthjacokachgmfaaGreatDoor
namespace Rows

/-- THE TIED CARD OF 'claviertop.TopAnswers'. -/
def topAnswersCard : Claim7 := { stood := { row := topAnswersRow, standIns := [], harness := (true, "aebedd4d5071a27cd5eedc550f2835ff30b08b9992d2ad8937c9ad06a144289b"), looks := false }, kinds := [], alts := [], laidByText := true, laidKinds := [.data, .data, .data, .data, .pinned], laidTests := true, laidLooks := .later }
def TopAnswersCardSaid : Prop := Claim7.holds Tryz.pinned (.plain (OpenSpec.ofChange topAnswersSpec)) topAnswersCard

/-- THE TIED CARD OF 'claviertop.TopForms'. -/
def topFormsCard : Claim7 := { stood := { row := topFormsRow, standIns := [], harness := (true, "aebedd4d5071a27cd5eedc550f2835ff30b08b9992d2ad8937c9ad06a144289b"), looks := false }, kinds := [], alts := [], laidByText := true, laidKinds := [.data, .data, .data, .data, .pinned], laidTests := true, laidLooks := .later }
def TopFormsCardSaid : Prop := Claim7.holds Tryz.pinned (.plain (OpenSpec.ofChange topFormsSpec)) topFormsCard

/-- THE SECOND FORM's CARD OF 'claviertop.TopAnswers'. -/
def topAnswersUptoCard : Claim7 := { stood := { row := topAnswersUptoRow, standIns := [], harness := (true, "aebedd4d5071a27cd5eedc550f2835ff30b08b9992d2ad8937c9ad06a144289b"), looks := false }, kinds := [], alts := [], laidByText := true, laidKinds := [.data, .data, .data, .data, .pinned], laidTests := true, laidLooks := .later }
def TopAnswersUptoCardSaid : Prop := Claim7.holds Tryz.pinned (.plain (OpenSpec.upto topAnswersSpec)) topAnswersUptoCard

/-- THE SECOND FORM's CARD OF 'claviertop.TopForms'. -/
def topFormsUptoCard : Claim7 := { stood := { row := topFormsUptoRow, standIns := [], harness := (true, "aebedd4d5071a27cd5eedc550f2835ff30b08b9992d2ad8937c9ad06a144289b"), looks := false }, kinds := [], alts := [], laidByText := true, laidKinds := [.data, .data, .data, .data, .pinned], laidTests := true, laidLooks := .later }
def TopFormsUptoCardSaid : Prop := Claim7.holds Tryz.pinned (.plain (OpenSpec.upto topFormsSpec)) topFormsUptoCard
end Rows
end Go.Proofs.YthjacokachgmfaaGreatDoor
