/- The small tables and the closed calls, checked by the kernel. -/
import Derived.Test.YtefpgecinlekpaaGreatTabs
namespace Go.Proofs.YtefpgecinlekpaaGreat
open Go.Ev

theorem tabSgn_ok : tabSgn (EV 20) = true := by kernel_rfl
theorem tabAbs_ok : tabAbs (EV 20) = true := by kernel_rfl
theorem tabWhole_ok : tabWhole (EV 20) = true := by kernel_rfl

end Go.Proofs.YtefpgecinlekpaaGreat
