-- Written by a program of this session (myprint.py over the kit's printer, some callees given by hand). Lean checks it.
import Derived.Test.YtgbjfjdmhieejaaProg
import Derived.Below
import Derived.Deep.Draws
import Derived.Deep.AppendLies
import Derived.Maps.AppendAt
import Derived.OwnWalk
import Derived.Laws.BytesArg
import Derived.Laws.MakeOwn
import Derived.Laws.OwnMore
import Derived.Deep.OwnRows
import Derived.Tactics
import Derived.Lib.ConvBytes
import Derived.Laws.Slices
import Derived.WalkKit
import Derived.KernelRfl
import Derived.RowKit3
import Derived.Deep.LoopGhost
import Derived.Deep.QuietTactic
import Derived.BigQuiet
import Derived.WideLaws
import Derived.Deep.DeepCutAuto
import Derived.Deep.CutBlock
import Derived.Deep.RegionHeld3
import Derived.Laws.Rows
import Derived.Lib.AppendStr
import Derived.ArgAppend
import Derived.Laws.IdiomCopy
import Derived.OrdersHeld
import Derived.Laws.BitsLemmas
import Derived.RowKit
import Derived.Test.YtgbjfjdmhieejaaHSizes
import Derived.Test.YtgbjfjdmhieejaaWWords
import Derived.Test.YtgbjfjdmhieejaaWLast
import Derived.Test.YtgbjfjdmhieejaaWTab
import Derived.Test.YtgbjfjdmhieejaaWFour
import Derived.Test.YtgbjfjdmhieejaaWQPut
import Derived.Test.YtgbjfjdmhieejaaWApart
import Derived.Test.YtgbjfjdmhieejaaWArr
import Derived.Test.YtgbjfjdmhieejaaWZeros
import Derived.Test.YtgbjfjdmhieejaaWFoot
import Derived.Test.YtgbjfjdmhieejaaWKept
import Derived.Test.YtgbjfjdmhieejaaWShare
import Derived.Test.YtgbjfjdmhieejaaWN
import Derived.Test.YtgbjfjdmhieejaaWFootNe
import Derived.Test.YtgbjfjdmhieejaaWAt
import Derived.Test.YtgbjfjdmhieejaaWEqStruct
import Derived.Test.YtgbjfjdmhieejaaWRepsOne
import Derived.Test.YtgbjfjdmhieejaaWInv
import Derived.Test.YtgbjfjdmhieejaaWInvWords
import Derived.Test.YtgbjfjdmhieejaaWGuard
import Derived.Test.YtgbjfjdmhieejaaWNEv
import Derived.Test.YtgbjfjdmhieejaaWMore
namespace Go.Proofs.Ytgbjfjdmhieejaa.E
open Go.Proofs.Ytgbjfjdmhieejaa.H Go.RowKit Go.Proofs.YtgbjfjdmhieejaaW.PrintWords Go.Proofs.YtgbjfjdmhieejaaW.PrintLast Go.Proofs.YtgbjfjdmhieejaaW.PrintMore
attribute [local go_sem] max2_int min2_int max_two min_two max_three min_three max_four min_four   -- for this text's walks alone
set_option linter.unusedVariables false
set_option linter.unusedSimpArgs false



def errW : Option Int → Value
  | none => .nilIface
  | some c => .iface 0 (.int .i64 c)
theorem errW_none : errW none = .nilIface := rfl
theorem errW_some (c : Int) : errW (some c) = .iface 0 (.int .i64 c) := rfl

-- the values' own types

end Go.Proofs.Ytgbjfjdmhieejaa.E
