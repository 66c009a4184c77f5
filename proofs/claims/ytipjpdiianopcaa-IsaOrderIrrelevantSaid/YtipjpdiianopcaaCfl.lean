/- A field of a fault that a call has returned. -/
import Derived.Test.YtipjpdiianopcaaAx0
namespace Go.Proofs.Ytipjpdiianopcaa.Cfl
open Go.RowKit
theorem fld27_0 (a b : Value) (w : World) : (Instr.field 27 (.agg #[a, b]) 0).run Try.prog w = .ok a w := by
  kernel_rfl
theorem fld27_1 (a b : Value) (w : World) : (Instr.field 27 (.agg #[a, b]) 1).run Try.prog w = .ok b w := by
  kernel_rfl
end Go.Proofs.Ytipjpdiianopcaa.Cfl
