-- Written by a program of this session (myprint.py over the kit's printer, some callees given by hand). Lean checks it.
import Derived.Test.YtpljdaahkiabkaaProg
import Derived.Below
import Derived.Deep.Draws
import Derived.Deep.AppendLies
import Derived.Maps.AppendAt
import Derived.OwnWalk
import Derived.Laws.BytesArg
import Derived.Laws.MakeOwn
import Derived.Laws.OwnMore
import Derived.Deep.OwnRows
import Derived.Tactics
import Derived.Lib.ConvBytes
import Derived.Laws.Slices
import Derived.WalkKit
import Derived.KernelRfl
import Derived.RowKit3
import Derived.Deep.LoopGhost
import Derived.Deep.QuietTactic
import Derived.BigQuiet
import Derived.WideLaws
import Derived.Deep.DeepCutAuto
import Derived.Deep.CutBlock
import Derived.Deep.RegionHeld3
import Derived.Laws.Rows
import Derived.Lib.AppendStr
import Derived.ArgAppend
import Derived.Laws.IdiomCopy
import Derived.OrdersHeld
import Derived.Laws.BitsLemmas
import Derived.RowKit
import Derived.Test.YtpljdaahkiabkaaHTell
import Derived.Test.YtpljdaahkiabkaaWWords
import Derived.Test.YtpljdaahkiabkaaWLast
import Derived.Test.YtpljdaahkiabkaaWTab
import Derived.Test.YtpljdaahkiabkaaWFour
import Derived.Test.YtpljdaahkiabkaaWQPut
import Derived.Test.YtpljdaahkiabkaaWApart
import Derived.Test.YtpljdaahkiabkaaWArr
import Derived.Test.YtpljdaahkiabkaaWZeros
import Derived.Test.YtpljdaahkiabkaaWFoot
import Derived.Test.YtpljdaahkiabkaaWKept
import Derived.Test.YtpljdaahkiabkaaWShare
import Derived.Test.YtpljdaahkiabkaaWN
import Derived.Test.YtpljdaahkiabkaaWFootNe
import Derived.Test.YtpljdaahkiabkaaWAt
import Derived.Test.YtpljdaahkiabkaaWEqStruct
import Derived.Test.YtpljdaahkiabkaaWRepsOne
import Derived.Test.YtpljdaahkiabkaaWInv
import Derived.Test.YtpljdaahkiabkaaWInvWords
import Derived.Test.YtpljdaahkiabkaaWGuard
import Derived.Test.YtpljdaahkiabkaaWNEv
import Derived.Test.YtpljdaahkiabkaaWMore
namespace Go.Proofs.Ytpljdaahkiabkaa.M
open Go.Proofs.Ytpljdaahkiabkaa.H Go.RowKit Go.Proofs.YtpljdaahkiabkaaW.PrintWords Go.Proofs.YtpljdaahkiabkaaW.PrintLast Go.Proofs.YtpljdaahkiabkaaW.PrintMore
attribute [local go_sem] max2_int min2_int max_two min_two max_three min_three max_four min_four   -- for this text's walks alone
set_option linter.unusedVariables false
set_option linter.unusedSimpArgs false



def errW : Option Int → Value
  | none => .nilIface
  | some c => .iface 0 (.int .i64 c)
theorem errW_none : errW none = .nilIface := rfl
theorem errW_some (c : Int) : errW (some c) = .iface 0 (.int .i64 c) := rfl

-- the values' own types

end Go.Proofs.Ytpljdaahkiabkaa.M
