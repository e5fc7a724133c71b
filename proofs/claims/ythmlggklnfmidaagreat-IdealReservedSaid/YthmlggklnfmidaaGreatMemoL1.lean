/- A long run of groebner.Basis (written by gen_memo.py). -/
import Derived.Test.YthmlggklnfmidaaGreatMemoH
namespace Go.Proofs.YthmlggklnfmidaaGreat
open Go.Ev
def a1_10 : List PV := [(.one (.lst [[(.lst [[ff, l1, ff, l1, (i6 (3)), z, z, z, z, z, z, z]])], [(.lst [[ff, l1, ff, l1, z, o, z, z, z, z, z, z]])], [(.lst [[tt, l1, ff, l1, o, z, z, z, z, z, z, o], [ff, l1, ff, l1, z, z, z, z, z, z, z, z]])]])), (.one (.lst [[o, o, o, o, o, o, o, o], [z, z, z, z, z, z, z, (i6 (-1))], [z, z, z, z, z, z, (i6 (-1)), z], [z, z, z, z, z, (i6 (-1)), z, z], [z, z, z, z, (i6 (-1)), z, z, z], [z, z, z, (i6 (-1)), z, z, z, z], [z, z, (i6 (-1)), z, z, z, z, z], [z, (i6 (-1)), z, z, z, z, z, z]]))]
def r1_10 : PV := (.tup [(.agg [(.lst [[o, o, o, o, o, o, o, o], [z, z, z, z, z, z, z, (i6 (-1))], [z, z, z, z, z, z, (i6 (-1)), z], [z, z, z, z, z, (i6 (-1)), z, z], [z, z, z, z, (i6 (-1)), z, z, z], [z, z, z, (i6 (-1)), z, z, z, z], [z, z, (i6 (-1)), z, z, z, z, z], [z, (i6 (-1)), z, z, z, z, z, z]]), (.lst [[(.lst [[ff, l1, ff, l1, z, z, z, z, z, z, z, z]])]]), (.lst [[(.lst [[(.lst [[ff, l1, ff, l1, z, z, z, z, z, z, z, (i6 (3))]])], [(.lst [])], [(.lst [[ff, l1, ff, l1, (i6 (2)), z, z, z, z, z, z, (i6 (2))], [ff, l1, ff, l1, o, z, z, z, z, z, z, o], [ff, l1, ff, l1, z, z, z, z, z, z, z, z]])]])]])]), (.one z)])
theorem m1_10 : (EH 60).pure 30 a1_10 = some r1_10 := isV_eq (by kernel_rfl)
end Go.Proofs.YthmlggklnfmidaaGreat
