import Derived.ProofKit
import Derived.KernelRfl
import Derived.Test.YthjacokachgmfaaGreatDoorCards
import Derived.Test.YthjacokachgmfaaGreatDoorTie
set_option linter.unusedVariables false
set_option linter.unusedSimpArgs false
namespace Go.Proofs.YthjacokachgmfaaGreatDoor.topForms
open Go.ChangeShapes Go.WideShapes Go.ChangeAt Go.RowKit
theorem hfnL:Tryz.pinned.checked.prog.funcNamed Rows.topFormsUptoRow.func=some 4:=by kernel_rfl
theorem hinstL:Tryz.f4.isInstance Tryz.pinned.checked.prog Rows.topFormsUptoRow.origin Rows.topFormsUptoRow.targs:=of_decide_eq_true (by kernel_rfl)
theorem hwrapL:Tryz.f4.isWrapper Tryz.pinned.checked.prog Rows.topFormsUptoRow.wrapper Rows.topFormsUptoRow.mainSum:=by
  unfold Func.isWrapper
  first|(rw [if_pos (by decide +kernel)];kernel_rfl)|(rw [if_neg (by decide +kernel)];exact ⟨rfl,rfl⟩)
theorem closedL:joinedFacts Tryz.pinned.checked.prog 4 Tryz.f4 (Rows.OpenSpec.upto Rows.topFormsSpec).bare Rows.topFormsUptoRow=true:=by kernel_rfl
end Go.Proofs.YthjacokachgmfaaGreatDoor.topForms
