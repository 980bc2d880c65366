/- topFormsUpto_holds: a key's event that flags tell wholly is sent alike by two sets of flags that both send it so (TopFormsUptoCardSaid, for every argument within its bound; no further condition). -/
import Derived.ProofKit
import Derived.OpenShut
import Derived.ChangeArms
import Derived.DataReads
import Derived.Test.YthjacokachgmfaaGreatDoorCards
import Derived.WalkKit
import Derived.ShutString
import Derived.ChangeOld
import Derived.Below
import Derived.Deep.DeepHandedRow
import Derived.Lib.LaidTab
import Derived.Test.YthjacokachgmfaaGreatDoorT42
import Derived.Test.YthjacokachgmfaaGreatDoorT43
set_option linter.unusedVariables false
set_option linter.unusedSimpArgs false
section
namespace Go.Proofs.YthjacokachgmfaaGreatDoor.topForms
open Go.ChangeShapes Go.WideShapes Go.ChangeAt Go.RowKit YthjacokachgmfaaGreatDoorW.PrintWords YthjacokachgmfaaGreatDoor.R YthjacokachgmfaaGreatDoor.H
theorem saidUpto:Rows.TopFormsUptoSaid :=
  OpenClaim.holds_of_cond 4 Tryz.f4 rfl rfl rfl rfl rfl rfl rfl ⟨rfl,rfl,rfl,rfl,rfl⟩ rfl rfl rfl rfl rfl hfnL Tryz.func4 closedL hinstL hwrapL
    (fun os started H enc _ F=>by rw [OpenClaim.pre_eq_preRow];exact lifted os started H enc F)
theorem plain (f : FuncId) (fn : Func) (hf : Tryz.pinned.checked.prog.funcNamed "clavier/claviertop.TopForms" = some f) (hfn : Tryz.pinned.checked.prog.funcs[f]? = some fn) :
    false=Tryz.pinned.checked.prog.looks []∧∀ (j:Nat) t,fn.params[j]?=some t→Tryz.pinned.checked.prog.wantsStandIn t=false:=by
  obtain rfl : f = 4 := Option.some.inj ((show Tryz.prog.funcNamed "clavier/claviertop.TopForms" = some 4 by kernel_rfl).symm.trans hf) |>.symm
  obtain rfl:fn=Tryz.f4:=(Option.some.inj (Tryz.func4.symm.trans hfn)).symm
  refine ⟨by kernel_rfl,fun j t ht=>?_⟩
  rw [Tryz.params4] at ht
  match j,ht with
  | 0,ht=>cases ht;exact (show Tryz.prog.wantsStandIn 49=false by kernel_rfl)
  | 1,ht=>cases ht;exact (show Tryz.prog.wantsStandIn 35=false by kernel_rfl)
theorem card:Rows.TopFormsUptoCardSaid :=
  Claim7.holds_tied_plain_at .later [] _ _ _ _ saidUpto (fun _ h=>by cases h) (by kernel_rfl) (fun _ h=>by cases h) topFormsUpto_row_tie rfl ⟨rfl,rfl⟩ (by kernel_rfl) rfl plain (by kernel_rfl)
end Go.Proofs.YthjacokachgmfaaGreatDoor.topForms
namespace Go.Proofs.YthjacokachgmfaaGreatDoor
theorem topFormsUpto_holds:Rows.TopFormsUptoCardSaid:=topForms.card
end Go.Proofs.YthjacokachgmfaaGreatDoor
end
