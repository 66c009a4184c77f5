/- Words and contracts for the laws. -/
import Derived.Test.YtipjpdiianopcaarAx0
import Derived.Test.YtipjpdiianopcaarCv
import Derived.Test.YtipjpdiianopcaarCd
namespace Go.Proofs.Ytipjpdiianopcaa.E
open Go.RowKit Go.Proofs.YtipjpdiianopcaaW.aZ Go.Proofs.YtipjpdiianopcaaW.dQ Go.Proofs.YtipjpdiianopcaaW.gW Go.Proofs.Ytipjpdiianopcaa.A Go.Proofs.Ytipjpdiianopcaa.Cv Go.Proofs.Ytipjpdiianopcaa.Cd
attribute [local go_sem] jY jZ kY kZ jD jE kC kD
set_option linter.unusedVariables false
set_option linter.unusedSimpArgs false
theorem GY (d:Nat) (w:World) (x0 y0:Int) (x1 y1:Int) :
  (Op.equalIn (d+2) 27 (.agg #[.int .i64 x0,.int .i64 x1]) (.agg #[.int .i64 y0,.int .i64 y1])).run Try.prog w=.ok (x0==y0&&(x1==y1)) w:=by
 refine KX Try.underlying27 aV ?_
 refine Ec (by rfl) (by go_simp;rfl) (by go_simp;rfl) (by go_simp) ?_
 exact Ed (by rfl) (by go_simp;rfl) (by go_simp;rfl) (by go_simp)
end Go.Proofs.Ytipjpdiianopcaa.E
