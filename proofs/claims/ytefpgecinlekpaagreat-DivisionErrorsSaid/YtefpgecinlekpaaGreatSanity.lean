/- The program's own examples answer true. -/
import Derived.Test.YtefpgecinlekpaaGreatBase
namespace Go.Proofs.YtefpgecinlekpaaGreat
open Go.Ev

theorem sanity_ev : (EV 40).pure 7 [] = some (.one (.bool true)) := by kernel_rfl

end Go.Proofs.YtefpgecinlekpaaGreat
