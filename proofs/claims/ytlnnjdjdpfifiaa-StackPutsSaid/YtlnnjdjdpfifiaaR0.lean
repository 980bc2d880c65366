-- Written by a program of this session (myprint.py over the kit's printer, some callees given by hand). Lean checks it.
import Derived.Test.YtlnnjdjdpfifiaaProg
import Derived.Below
import Derived.Deep.Draws
import Derived.Deep.AppendLies
import Derived.Maps.AppendAt
import Derived.OwnWalk
import Derived.Laws.BytesArg
import Derived.Laws.MakeOwn
import Derived.Laws.OwnMore
import Derived.Deep.OwnRows
import Derived.Tactics
import Derived.Lib.ConvBytes
import Derived.Laws.Slices
import Derived.WalkKit
import Derived.KernelRfl
import Derived.RowKit3
import Derived.Deep.LoopGhost
import Derived.Deep.QuietTactic
import Derived.BigQuiet
import Derived.WideLaws
import Derived.Deep.DeepCutAuto
import Derived.Deep.CutBlock
import Derived.Deep.RegionHeld3
import Derived.Laws.Rows
import Derived.Lib.AppendStr
import Derived.ArgAppend
import Derived.Laws.IdiomCopy
import Derived.OrdersHeld
import Derived.Laws.BitsLemmas
import Derived.RowKit
import Derived.Test.YtlnnjdjdpfifiaaHClone
import Derived.Test.YtlnnjdjdpfifiaaHPut
import Derived.Test.YtlnnjdjdpfifiaaHPop
import Derived.Test.YtlnnjdjdpfifiaaHField
import Derived.Test.YtlnnjdjdpfifiaaWWords
import Derived.Test.YtlnnjdjdpfifiaaWLast
import Derived.Test.YtlnnjdjdpfifiaaWTab
import Derived.Test.YtlnnjdjdpfifiaaWFour
import Derived.Test.YtlnnjdjdpfifiaaWQPut
import Derived.Test.YtlnnjdjdpfifiaaWApart
import Derived.Test.YtlnnjdjdpfifiaaWArr
import Derived.Test.YtlnnjdjdpfifiaaWZeros
import Derived.Test.YtlnnjdjdpfifiaaWFoot
import Derived.Test.YtlnnjdjdpfifiaaWKept
import Derived.Test.YtlnnjdjdpfifiaaWShare
import Derived.Test.YtlnnjdjdpfifiaaWN
import Derived.Test.YtlnnjdjdpfifiaaWFootNe
import Derived.Test.YtlnnjdjdpfifiaaWAt
import Derived.Test.YtlnnjdjdpfifiaaWEqStruct
import Derived.Test.YtlnnjdjdpfifiaaWRepsOne
import Derived.Test.YtlnnjdjdpfifiaaWInv
import Derived.Test.YtlnnjdjdpfifiaaWInvWords
import Derived.Test.YtlnnjdjdpfifiaaWGuard
import Derived.Test.YtlnnjdjdpfifiaaWNEv
import Derived.Test.YtlnnjdjdpfifiaaWMore
namespace Go.Proofs.Ytlnnjdjdpfifiaa.R
open Go.Proofs.Ytlnnjdjdpfifiaa.H Go.RowKit Go.Proofs.YtlnnjdjdpfifiaaW.PrintWords Go.Proofs.YtlnnjdjdpfifiaaW.PrintLast Go.Proofs.YtlnnjdjdpfifiaaW.PrintMore
attribute [local go_sem] max2_int min2_int max_two min_two max_three min_three max_four min_four   -- for this text's walks alone
set_option linter.unusedVariables false
set_option linter.unusedSimpArgs false



def errW : Option Int → Value
  | none => .nilIface
  | some c => .iface 0 (.int .i64 c)
theorem errW_none : errW none = .nilIface := rfl
theorem errW_some (c : Int) : errW (some c) = .iface 0 (.int .i64 c) := rfl

theorem info3 : (Try.prog.info? 3).map (fun i => (i.zero, i.size, i.bytes)) = some (some (.int .i64 0), 1, 8) := by kernel_rfl
-- the values' own types

end Go.Proofs.Ytlnnjdjdpfifiaa.R
