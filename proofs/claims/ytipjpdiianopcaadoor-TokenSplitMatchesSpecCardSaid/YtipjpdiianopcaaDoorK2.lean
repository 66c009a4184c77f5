/- A closed fact of the program, by itself: its head names no lift of finals. -/
import Derived.Test.YtipjpdiianopcaaDoorRows
import Derived.JoinedOf
import Derived.KernelRfl
namespace Go.Proofs.YtipjpdiianopcaaDoor.K
theorem lifted : (Rows.tokenSplitMatchesSpecRow.lifted == Tryd.prog.liftsFinal) = true := by kernel_rfl
end Go.Proofs.YtipjpdiianopcaaDoor.K
