import Derived.Test.YtkbepgelgcoihaaProg
import Derived.Test.YtkbepgelgcoihaaWWords
/- A field of a record, as a walk asks for it. -/
namespace Go.Proofs.Ytkbepgelgcoihaa.H
theorem field24_0 (x0 : Int) (x1 : Int) (x2 : Int) (x3 : Int) (x4 : Bool) (W : World) : (Instr.field 24 (.agg #[.int .i64 x0, .int .u8 x1, .int .i64 x2, .int .i64 x3, .bool x4]) 0).run Try.prog W = .ok (.int .i64 x0) W := by kernel_rfl
theorem field24_3 (x0 : Int) (x1 : Int) (x2 : Int) (x3 : Int) (x4 : Bool) (W : World) : (Instr.field 24 (.agg #[.int .i64 x0, .int .u8 x1, .int .i64 x2, .int .i64 x3, .bool x4]) 3).run Try.prog W = .ok (.int .i64 x3) W := by kernel_rfl
theorem field24_4 (x0 : Int) (x1 : Int) (x2 : Int) (x3 : Int) (x4 : Bool) (W : World) : (Instr.field 24 (.agg #[.int .i64 x0, .int .u8 x1, .int .i64 x2, .int .i64 x3, .bool x4]) 4).run Try.prog W = .ok (.bool x4) W := by kernel_rfl
end Go.Proofs.Ytkbepgelgcoihaa.H
