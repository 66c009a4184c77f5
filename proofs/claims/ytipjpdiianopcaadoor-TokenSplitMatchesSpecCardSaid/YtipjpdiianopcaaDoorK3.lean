/- A closed fact of the program, by itself: how it was made. -/
import Derived.Test.YtipjpdiianopcaaDoorRows
import Derived.JoinedOf
import Derived.KernelRfl
namespace Go.Proofs.YtipjpdiianopcaaDoor.K
theorem made : (Tryd.prog.make == some Rows.tokenSplitMatchesSpecRow.make) = true := by kernel_rfl
end Go.Proofs.YtipjpdiianopcaaDoor.K
