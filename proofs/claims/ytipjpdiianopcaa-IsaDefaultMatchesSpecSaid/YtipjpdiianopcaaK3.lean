/- A closed fact of the program, by itself: how it was made. -/
import Derived.Test.YtipjpdiianopcaaRows
import Derived.JoinedOf
import Derived.KernelRfl
namespace Go.Proofs.Ytipjpdiianopcaa.K
theorem made : (Try.prog.make == some Rows.codecGetMatchesSpecRow.make) = true := by kernel_rfl
end Go.Proofs.Ytipjpdiianopcaa.K
