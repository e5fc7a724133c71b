/- The interpreter of this program, with what the examples answer. -/
import Derived.Test.YthmlggklnfmidaaGreatBaseB
namespace Go.Proofs.YthmlggklnfmidaaGreat
open Go.Ev

def XV : Nat → Option XFunc := without [4] X
def M4 : Memo := [(4, [], .one (.bool true))]
def E0 : Oracle := withMemo E0B M4

/-- The interpreter, at depth n. -/
def EV (n : Nat) : Oracle := ev E0 XV 1000 n

end Go.Proofs.YthmlggklnfmidaaGreat
