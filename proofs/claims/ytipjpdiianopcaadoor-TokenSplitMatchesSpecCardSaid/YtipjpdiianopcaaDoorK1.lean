/- A closed fact of the program, by itself: what its head says lets a call be entered. -/
import Derived.Test.YtipjpdiianopcaaDoorRows
import Derived.JoinedOf
import Derived.KernelRfl
namespace Go.Proofs.YtipjpdiianopcaaDoor.K
theorem mayEnter : Tryd.prog.mayEnter = true := by kernel_rfl
end Go.Proofs.YtipjpdiianopcaaDoor.K
