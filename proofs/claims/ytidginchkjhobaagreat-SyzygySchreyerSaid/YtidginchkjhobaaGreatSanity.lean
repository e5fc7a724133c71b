/- The program's own examples answer true. -/
import Derived.Test.YtidginchkjhobaaGreatBase
namespace Go.Proofs.YtidginchkjhobaaGreat
open Go.Ev
theorem yt:(BB.E 1000 40).pure 7 []=some (.one (.bool true)):=by kernel_rfl
theorem uo:Xu BB 7 [] (.one (.bool true)):=⟨1000,40,yt⟩
end Go.Proofs.YtidginchkjhobaaGreat
