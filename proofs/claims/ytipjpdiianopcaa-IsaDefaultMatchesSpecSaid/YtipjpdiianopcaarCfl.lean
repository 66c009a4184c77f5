/- Words and contracts for the laws. -/
import Derived.Test.YtipjpdiianopcaarAx0
set_option linter.unusedVariables false
set_option linter.unusedSimpArgs false
namespace Go.Proofs.Ytipjpdiianopcaa.Zu
open Go.RowKit
theorem GU (a b:Value) (w:World):(Instr.field 27 (.agg #[a,b]) 0).run Try.prog w=.ok a w:=by
 kernel_rfl
theorem GV (a b:Value) (w:World):(Instr.field 27 (.agg #[a,b]) 1).run Try.prog w=.ok b w:=by
 kernel_rfl
end Go.Proofs.Ytipjpdiianopcaa.Zu
