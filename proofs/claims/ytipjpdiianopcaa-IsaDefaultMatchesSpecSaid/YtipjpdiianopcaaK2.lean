/- A closed fact of the program, by itself: its head names no lift of finals. -/
import Derived.Test.YtipjpdiianopcaaRows
import Derived.JoinedOf
import Derived.KernelRfl
namespace Go.Proofs.Ytipjpdiianopcaa.K
theorem lifted : (Rows.codecGetMatchesSpecRow.lifted == Try.prog.liftsFinal) = true := by kernel_rfl
end Go.Proofs.Ytipjpdiianopcaa.K
