/- The program's own examples answer true. -/
import Derived.Test.YtidginchkjhobaaGreatBase
namespace Go.Proofs.YtidginchkjhobaaGreat
open Go.Ev
theorem uY:(BB.E 1000 40).pure 7 []=some (.one (.bool true)):=by kernel_rfl
theorem qF:Xx BB 7 [] (.one (.bool true)):=⟨1000,40,uY⟩
end Go.Proofs.YtidginchkjhobaaGreat
