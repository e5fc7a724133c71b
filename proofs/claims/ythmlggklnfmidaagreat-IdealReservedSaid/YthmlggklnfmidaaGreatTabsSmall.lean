/- The tables of small terms, checked by the kernel. -/
import Derived.Test.YthmlggklnfmidaaGreatTabs
namespace Go.Proofs.YthmlggklnfmidaaGreat
open Go.Ev

theorem tabCmp_ok : tabCmp (EV 20) = true := by kernel_rfl
theorem tabAdd_ok : tabAdd (EV 20) = true := by kernel_rfl
theorem tabScale_ok : tabScale (EV 20) = true := by kernel_rfl
theorem tabSgn_ok : tabSgn (EV 20) = true := by kernel_rfl
theorem tabAbs_ok : tabAbs (EV 20) = true := by kernel_rfl
theorem tabWhole_ok : tabWhole (EV 20) = true := by kernel_rfl

end Go.Proofs.YthmlggklnfmidaaGreat
