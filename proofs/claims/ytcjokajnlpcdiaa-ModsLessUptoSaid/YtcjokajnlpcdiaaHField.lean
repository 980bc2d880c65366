import Derived.Test.YtcjokajnlpcdiaaProg
import Derived.Test.YtcjokajnlpcdiaaWWords
/- A field of a record, as a walk asks for it. -/
namespace Go.Proofs.Ytcjokajnlpcdiaa.H
theorem field34_0 (x0 : Int) (x1 : Int) (x2 : Int) (x3 : Int) (x4 : Bool) (W : World) : (Instr.field 34 (.agg #[.int .i64 x0, .int .u8 x1, .int .i64 x2, .int .i64 x3, .bool x4]) 0).run Try.prog W = .ok (.int .i64 x0) W := by kernel_rfl
theorem field40_0 (x0 : Int) (x1 : Int) (x2 : Int) (x3 : Int) (x4 : Bool) (W : World) : (Instr.field 40 (.agg #[.int .i64 x0, .int .u8 x1, .int .i64 x2, .int .i64 x3, .bool x4]) 0).run Try.prog W = .ok (.int .i64 x0) W := by kernel_rfl
end Go.Proofs.Ytcjokajnlpcdiaa.H
