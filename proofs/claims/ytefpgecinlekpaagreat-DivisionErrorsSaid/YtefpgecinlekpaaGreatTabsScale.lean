/- One table, checked by the kernel. -/
import Derived.Test.YtefpgecinlekpaaGreatTabs
namespace Go.Proofs.YtefpgecinlekpaaGreat
open Go.Ev

theorem tabScale_ok : tabScale (EV 20) = true := by kernel_rfl

end Go.Proofs.YtefpgecinlekpaaGreat
