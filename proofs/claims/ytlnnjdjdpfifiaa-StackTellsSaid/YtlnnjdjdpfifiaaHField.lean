import Derived.Test.YtlnnjdjdpfifiaaProg
import Derived.Test.YtlnnjdjdpfifiaaWWords
/- A field of a record, as a walk asks for it. -/
namespace Go.Proofs.Ytlnnjdjdpfifiaa.H
theorem field27_0 (x0 : Int) (x1 : Value) (W : World) : (Instr.field 27 (.agg #[.int .i64 x0, x1]) 0).run Try.prog W = .ok (.int .i64 x0) W := by kernel_rfl
end Go.Proofs.Ytlnnjdjdpfifiaa.H
