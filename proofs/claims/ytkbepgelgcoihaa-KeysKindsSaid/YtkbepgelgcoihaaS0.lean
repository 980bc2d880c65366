-- Written by a program of this session (myprint.py over the kit's printer, some callees given by hand). Lean checks it.
import Derived.Test.YtkbepgelgcoihaaProg
import Derived.Below
import Derived.Deep.Draws
import Derived.Deep.AppendLies
import Derived.Maps.AppendAt
import Derived.OwnWalk
import Derived.Laws.BytesArg
import Derived.Laws.MakeOwn
import Derived.Laws.OwnMore
import Derived.Deep.OwnRows
import Derived.Tactics
import Derived.Lib.ConvBytes
import Derived.Laws.Slices
import Derived.WalkKit
import Derived.KernelRfl
import Derived.RowKit3
import Derived.Deep.LoopGhost
import Derived.Deep.QuietTactic
import Derived.BigQuiet
import Derived.WideLaws
import Derived.Deep.DeepCutAuto
import Derived.Deep.CutBlock
import Derived.Deep.RegionHeld3
import Derived.Laws.Rows
import Derived.Lib.AppendStr
import Derived.ArgAppend
import Derived.Laws.IdiomCopy
import Derived.OrdersHeld
import Derived.Laws.BitsLemmas
import Derived.RowKit
import Derived.Test.YtkbepgelgcoihaaHLook
import Derived.Test.YtkbepgelgcoihaaHFind
import Derived.Test.YtkbepgelgcoihaaHField
import Derived.Test.YtkbepgelgcoihaaHNum
import Derived.Test.YtkbepgelgcoihaaHPad
import Derived.Test.YtkbepgelgcoihaaWWords
import Derived.Test.YtkbepgelgcoihaaWLast
import Derived.Test.YtkbepgelgcoihaaWTab
import Derived.Test.YtkbepgelgcoihaaWFour
import Derived.Test.YtkbepgelgcoihaaWQPut
import Derived.Test.YtkbepgelgcoihaaWApart
import Derived.Test.YtkbepgelgcoihaaWArr
import Derived.Test.YtkbepgelgcoihaaWZeros
import Derived.Test.YtkbepgelgcoihaaWFoot
import Derived.Test.YtkbepgelgcoihaaWKept
import Derived.Test.YtkbepgelgcoihaaWShare
import Derived.Test.YtkbepgelgcoihaaWN
import Derived.Test.YtkbepgelgcoihaaWFootNe
import Derived.Test.YtkbepgelgcoihaaWAt
import Derived.Test.YtkbepgelgcoihaaWEqStruct
import Derived.Test.YtkbepgelgcoihaaWRepsOne
import Derived.Test.YtkbepgelgcoihaaWInv
import Derived.Test.YtkbepgelgcoihaaWInvWords
import Derived.Test.YtkbepgelgcoihaaWGuard
import Derived.Test.YtkbepgelgcoihaaWNEv
import Derived.Test.YtkbepgelgcoihaaWMore
namespace Go.Proofs.Ytkbepgelgcoihaa.S
open Go.Proofs.Ytkbepgelgcoihaa.H Go.RowKit Go.Proofs.YtkbepgelgcoihaaW.PrintWords Go.Proofs.YtkbepgelgcoihaaW.PrintLast Go.Proofs.YtkbepgelgcoihaaW.PrintMore
attribute [local go_sem] max2_int min2_int max_two min_two max_three min_three max_four min_four   -- for this text's walks alone
set_option linter.unusedVariables false
set_option linter.unusedSimpArgs false



def errW : Option Int → Value
  | none => .nilIface
  | some c => .iface 0 (.int .i64 c)
theorem errW_none : errW none = .nilIface := rfl
theorem errW_some (c : Int) : errW (some c) = .iface 0 (.int .i64 c) := rfl

-- the values' own types

end Go.Proofs.Ytkbepgelgcoihaa.S
