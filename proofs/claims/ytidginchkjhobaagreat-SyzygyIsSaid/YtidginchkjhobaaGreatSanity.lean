/- The program's own examples answer true. -/
import Derived.Test.YtidginchkjhobaaGreatBase
namespace Go.Proofs.YtidginchkjhobaaGreat
open Go.Ev

theorem sanity_ev : (BB.E 1000 40).pure 7 [] = some (.one (.bool true)) := by kernel_rfl
theorem sanity_ret : Ret BB 7 [] (.one (.bool true)) := ⟨1000, 40, sanity_ev⟩

end Go.Proofs.YtidginchkjhobaaGreat
