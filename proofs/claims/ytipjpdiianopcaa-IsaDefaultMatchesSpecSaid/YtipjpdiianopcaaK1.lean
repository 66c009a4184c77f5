/- A closed fact of the program, by itself: what its head says lets a call be entered. -/
import Derived.Test.YtipjpdiianopcaaRows
import Derived.JoinedOf
import Derived.KernelRfl
namespace Go.Proofs.Ytipjpdiianopcaa.K
theorem mayEnter : Try.prog.mayEnter = true := by kernel_rfl
end Go.Proofs.Ytipjpdiianopcaa.K
