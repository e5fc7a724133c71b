/- The table of the calls inside the two long runs (written by gen_memo.py). -/
import Derived.Test.YthmlggklnfmidaaGreatMemoR
namespace Go.Proofs.YthmlggklnfmidaaGreat
open Go.Ev
def ah_0 : List PV := [(.one (.lst [[ff, l1, ff, l1, o, z, z, z, z, z, z, o], [ff, l1, ff, l1, z, z, z, z, z, z, z, o], [tt, l1, ff, l1, z, z, z, z, z, z, z, z]])), (.one (.lst [[ff, l1, ff, l1, (i6 (2)), z, z, z, z, z, z, z], [tt, l1, ff, l1, o, z, z, z, z, z, z, z], [tt, l1, ff, l1, z, z, z, z, z, z, z, o], [ff, l1, ff, l1, z, z, z, z, z, z, z, z]])), (.agg [(i6 (2)), z, z, z, z, z, z, o]), (.agg [o, z, z, z, z, z, z, o]), (.agg [(i6 (2)), z, z, z, z, z, z, z])]
def rh_0 : PV := (.tup [(.one (.lst [[ff, (.lst [[(.int .u32 (2))]]), ff, l1, o, z, z, z, z, z, z, o], [tt, l1, ff, l1, o, z, z, z, z, z, z, z], [ff, l1, ff, l1, z, z, z, z, z, z, z, (i6 (2))], [tt, l1, ff, l1, z, z, z, z, z, z, z, o]])), (.one tt)])
theorem mh_0 : (ER 60).pure 139 ah_0 = some rh_0 := isV_eq (by kernel_rfl)
def ah_1 : List PV := [(.one (.lst [[ff, l1, ff, l1, o, z, z, z, z, z, z, o], [ff, l1, ff, l1, z, z, z, z, z, z, z, o], [tt, l1, ff, l1, z, z, z, z, z, z, z, z]])), (.one (.lst [[ff, l1, ff, l1, (i6 (3)), z, z, z, z, z, z, z]])), (.agg [(i6 (3)), z, z, z, z, z, z, o]), (.agg [o, z, z, z, z, z, z, o]), (.agg [(i6 (3)), z, z, z, z, z, z, z])]
def rh_1 : PV := (.tup [(.one (.lst [[ff, l1, ff, l1, (i6 (2)), z, z, z, z, z, z, o], [tt, l1, ff, l1, (i6 (2)), z, z, z, z, z, z, z]])), (.one tt)])
theorem mh_1 : (ER 60).pure 139 ah_1 = some rh_1 := isV_eq (by kernel_rfl)
def ah_2 : List PV := [(.one (.lst [[ff, l1, ff, l1, o, z, z, z, z, z, z, o], [ff, l1, ff, l1, z, z, z, z, z, z, z, o], [tt, l1, ff, l1, z, z, z, z, z, z, z, z]])), (.one (.lst [[tt, l1, ff, l1, o, z, z, z, z, z, z, z], [ff, l1, ff, l1, z, z, z, z, z, z, z, (i6 (2))], [tt, (.lst [[(.int .u32 (3))]]), ff, l1, z, z, z, z, z, z, z, o], [ff, (.lst [[(.int .u32 (2))]]), ff, l1, z, z, z, z, z, z, z, z]])), (.agg [o, z, z, z, z, z, z, (i6 (2))]), (.agg [o, z, z, z, z, z, z, o]), (.agg [z, z, z, z, z, z, z, (i6 (2))])]
def rh_2 : PV := (.tup [(.one (.lst [[ff, l1, ff, l1, (i6 (2)), z, z, z, z, z, z, z], [ff, (.lst [[(.int .u32 (3))]]), ff, l1, o, z, z, z, z, z, z, o], [tt, (.lst [[(.int .u32 (2))]]), ff, l1, o, z, z, z, z, z, z, z], [ff, l1, ff, l1, z, z, z, z, z, z, z, (i6 (2))], [tt, l1, ff, l1, z, z, z, z, z, z, z, o]])), (.one tt)])
theorem mh_2 : (ER 60).pure 139 ah_2 = some rh_2 := isV_eq (by kernel_rfl)
def ah_3 : List PV := [(.one (.lst [[ff, l1, ff, l1, o, z, z, z, z, z, z, o], [tt, l1, ff, l1, z, z, z, z, z, z, z, z]])), (.one (.lst [[ff, l1, ff, l1, o, z, z, z, z, z, z, z]])), (.agg [o, z, z, z, z, z, z, o]), (.agg [o, z, z, z, z, z, z, o]), (.agg [o, z, z, z, z, z, z, z])]
def rh_3 : PV := (.tup [(.one (.lst [[tt, l1, ff, l1, z, z, z, z, z, z, z, z]])), (.one tt)])
theorem mh_3 : (ER 60).pure 139 ah_3 = some rh_3 := isV_eq (by kernel_rfl)
def ah_4 : List PV := [(.one (.lst [[ff, l1, ff, l1, o, z, z, z, z, z, z, o], [tt, l1, ff, l1, z, z, z, z, z, z, z, z]])), (.one (.lst [[ff, l1, ff, l1, (i6 (2)), z, z, z, z, z, z, z]])), (.agg [(i6 (2)), z, z, z, z, z, z, o]), (.agg [o, z, z, z, z, z, z, o]), (.agg [(i6 (2)), z, z, z, z, z, z, z])]
def rh_4 : PV := (.tup [(.one (.lst [[tt, l1, ff, l1, o, z, z, z, z, z, z, z]])), (.one tt)])
theorem mh_4 : (ER 60).pure 139 ah_4 = some rh_4 := isV_eq (by kernel_rfl)
def ah_5 : List PV := [(.one (.lst [[ff, l1, ff, l1, o, z, z, z, z, z, z, o], [tt, l1, ff, l1, z, z, z, z, z, z, z, z]])), (.one (.lst [[ff, l1, ff, l1, (i6 (3)), z, z, z, z, z, z, z]])), (.agg [(i6 (3)), z, z, z, z, z, z, o]), (.agg [o, z, z, z, z, z, z, o]), (.agg [(i6 (3)), z, z, z, z, z, z, z])]
def rh_5 : PV := (.tup [(.one (.lst [[tt, l1, ff, l1, (i6 (2)), z, z, z, z, z, z, z]])), (.one tt)])
theorem mh_5 : (ER 60).pure 139 ah_5 = some rh_5 := isV_eq (by kernel_rfl)
def ah_6 : List PV := [(.one (.lst [[ff, l1, ff, l1, (i6 (2)), z, z, z, z, z, z, z]])), (.one (.lst [[ff, l1, ff, l1, o, z, z, z, z, z, z, z]])), (.agg [(i6 (2)), z, z, z, z, z, z, z]), (.agg [(i6 (2)), z, z, z, z, z, z, z]), (.agg [o, z, z, z, z, z, z, z])]
def rh_6 : PV := (.tup [(.one (.lst [])), (.one tt)])
theorem mh_6 : (ER 60).pure 139 ah_6 = some rh_6 := isV_eq (by kernel_rfl)
def ah_7 : List PV := [(.one (.lst [[ff, l1, ff, l1, (i6 (3)), z, z, z, z, z, z, z]])), (.one (.lst [[ff, l1, ff, l1, (i6 (2)), z, z, z, z, z, z, z], [tt, l1, ff, l1, o, z, z, z, z, z, z, z], [tt, l1, ff, l1, z, z, z, z, z, z, z, o], [ff, l1, ff, l1, z, z, z, z, z, z, z, z]])), (.agg [(i6 (3)), z, z, z, z, z, z, z]), (.agg [(i6 (3)), z, z, z, z, z, z, z]), (.agg [(i6 (2)), z, z, z, z, z, z, z])]
def rh_7 : PV := (.tup [(.one (.lst [[ff, l1, ff, l1, (i6 (2)), z, z, z, z, z, z, z], [ff, l1, ff, l1, o, z, z, z, z, z, z, o], [tt, l1, ff, l1, o, z, z, z, z, z, z, z]])), (.one tt)])
theorem mh_7 : (ER 60).pure 139 ah_7 = some rh_7 := isV_eq (by kernel_rfl)
def ah_8 : List PV := [(.one (.lst [[ff, l1, ff, l1, (i6 (3)), z, z, z, z, z, z, z]])), (.one (.lst [[ff, l1, ff, l1, (i6 (2)), z, z, z, z, z, z, z]])), (.agg [(i6 (3)), z, z, z, z, z, z, z]), (.agg [(i6 (3)), z, z, z, z, z, z, z]), (.agg [(i6 (2)), z, z, z, z, z, z, z])]
def rh_8 : PV := (.tup [(.one (.lst [])), (.one tt)])
theorem mh_8 : (ER 60).pure 139 ah_8 = some rh_8 := isV_eq (by kernel_rfl)
def ah_9 : List PV := [(.one (.lst [[tt, l1, ff, l1, z, z, z, z, z, z, z, z]])), (.one (.lst [[ff, l1, ff, l1, (i6 (2)), z, z, z, z, z, z, z], [tt, l1, ff, l1, o, z, z, z, z, z, z, z], [ff, l1, ff, l1, z, z, z, z, z, z, z, z]])), (.agg [(i6 (2)), z, z, z, z, z, z, o]), (.agg [o, z, z, z, z, z, z, o]), (.agg [(i6 (2)), z, z, z, z, z, z, z])]
def rh_9 : PV := (.tup [(.one (.lst [[tt, l1, ff, l1, (i6 (2)), z, z, z, z, z, z, o], [ff, l1, ff, l1, o, z, z, z, z, z, z, o], [tt, l1, ff, l1, o, z, z, z, z, z, z, z], [tt, l1, ff, l1, z, z, z, z, z, z, z, o]])), (.one tt)])
theorem mh_9 : (ER 60).pure 139 ah_9 = some rh_9 := isV_eq (by kernel_rfl)
def ah_10 : List PV := [(.one (.lst [[tt, l1, ff, l1, z, z, z, z, z, z, z, z]])), (.one (.lst [[ff, l1, ff, l1, (i6 (2)), z, z, z, z, z, z, z]])), (.agg [(i6 (2)), z, z, z, z, z, z, o]), (.agg [o, z, z, z, z, z, z, o]), (.agg [(i6 (2)), z, z, z, z, z, z, z])]
def rh_10 : PV := (.tup [(.one (.lst [[tt, l1, ff, l1, (i6 (2)), z, z, z, z, z, z, o], [tt, l1, ff, l1, o, z, z, z, z, z, z, z]])), (.one tt)])
theorem mh_10 : (ER 60).pure 139 ah_10 = some rh_10 := isV_eq (by kernel_rfl)
def ah_11 : List PV := [(.one (.lst [[tt, l1, ff, l1, z, z, z, z, z, z, z, z]])), (.one (.lst [[ff, l1, ff, l1, (i6 (2)), z, z, z, z, z, z, o], [ff, l1, ff, l1, o, z, z, z, z, z, z, z]])), (.agg [o, z, z, z, z, z, z, o]), (.agg [o, z, z, z, z, z, z, o]), (.agg [o, z, z, z, z, z, z, z])]
def rh_11 : PV := (.tup [(.one (.lst [[tt, l1, ff, l1, (i6 (2)), z, z, z, z, z, z, (i6 (2))], [tt, l1, ff, l1, o, z, z, z, z, z, z, o], [tt, l1, ff, l1, z, z, z, z, z, z, z, z]])), (.one tt)])
theorem mh_11 : (ER 60).pure 139 ah_11 = some rh_11 := isV_eq (by kernel_rfl)
def ah_12 : List PV := [(.one (.lst [[tt, l1, ff, l1, z, z, z, z, z, z, z, z]])), (.one (.lst [])), (.agg [(i6 (3)), z, z, z, z, z, z, o]), (.agg [o, z, z, z, z, z, z, o]), (.agg [(i6 (3)), z, z, z, z, z, z, z])]
def rh_12 : PV := (.tup [(.one (.lst [[tt, l1, ff, l1, (i6 (2)), z, z, z, z, z, z, z]])), (.one tt)])
theorem mh_12 : (ER 60).pure 139 ah_12 = some rh_12 := isV_eq (by kernel_rfl)
def ah_13 : List PV := [(.one (.lst [])), (.one (.lst [[ff, l1, ff, l1, z, z, z, z, z, z, z, z]])), (.agg [(i6 (3)), z, z, z, z, z, z, o]), (.agg [o, z, z, z, z, z, z, o]), (.agg [(i6 (3)), z, z, z, z, z, z, z])]
def rh_13 : PV := (.tup [(.one (.lst [[tt, l1, ff, l1, z, z, z, z, z, z, z, o]])), (.one tt)])
theorem mh_13 : (ER 60).pure 139 ah_13 = some rh_13 := isV_eq (by kernel_rfl)
def ah_14 : List PV := [(.one (.lst [])), (.one (.lst [[ff, l1, ff, l1, z, z, z, z, z, z, z, o]])), (.agg [(i6 (2)), z, z, z, z, z, z, o]), (.agg [o, z, z, z, z, z, z, o]), (.agg [(i6 (2)), z, z, z, z, z, z, z])]
def rh_14 : PV := (.tup [(.one (.lst [[tt, l1, ff, l1, z, z, z, z, z, z, z, (i6 (2))]])), (.one tt)])
theorem mh_14 : (ER 60).pure 139 ah_14 = some rh_14 := isV_eq (by kernel_rfl)
def ah_15 : List PV := [(.one (.lst [])), (.one (.lst [[ff, l1, ff, l1, z, z, z, z, z, z, z, (i6 (2))]])), (.agg [o, z, z, z, z, z, z, o]), (.agg [o, z, z, z, z, z, z, o]), (.agg [o, z, z, z, z, z, z, z])]
def rh_15 : PV := (.tup [(.one (.lst [[tt, l1, ff, l1, z, z, z, z, z, z, z, (i6 (3))]])), (.one tt)])
theorem mh_15 : (ER 60).pure 139 ah_15 = some rh_15 := isV_eq (by kernel_rfl)
def ah_16 : List PV := [(.one (.lst [])), (.one (.lst [])), (.agg [o, z, z, z, z, z, z, o]), (.agg [o, z, z, z, z, z, z, o]), (.agg [o, z, z, z, z, z, z, z])]
def rh_16 : PV := (.tup [(.one (.lst [])), (.one tt)])
theorem mh_16 : (ER 60).pure 139 ah_16 = some rh_16 := isV_eq (by kernel_rfl)
def ah_17 : List PV := [(.one (.lst [])), (.one (.lst [])), (.agg [(i6 (2)), z, z, z, z, z, z, o]), (.agg [o, z, z, z, z, z, z, o]), (.agg [(i6 (2)), z, z, z, z, z, z, z])]
def rh_17 : PV := (.tup [(.one (.lst [])), (.one tt)])
theorem mh_17 : (ER 60).pure 139 ah_17 = some rh_17 := isV_eq (by kernel_rfl)
def ah_18 : List PV := [(.one (.lst [])), (.one (.lst [])), (.agg [(i6 (3)), z, z, z, z, z, z, o]), (.agg [o, z, z, z, z, z, z, o]), (.agg [(i6 (3)), z, z, z, z, z, z, z])]
def rh_18 : PV := (.tup [(.one (.lst [])), (.one tt)])
theorem mh_18 : (ER 60).pure 139 ah_18 = some rh_18 := isV_eq (by kernel_rfl)
def ah_19 : List PV := [(.agg [ff, l1, ff, l1]), (.agg [z, z, z, z, z, z, z, z]), (.one (.lst [[ff, l1, ff, l1, z, z, z, z, z, z, z, z]]))]
def rh_19 : PV := (.tup [(.one (.lst [[ff, l1, ff, l1, z, z, z, z, z, z, z, z]])), (.one z)])
theorem mh_19 : (ER 60).pure 103 ah_19 = some rh_19 := isV_eq (by kernel_rfl)
def ah_20 : List PV := [(.agg [ff, l1, ff, l1]), (.agg [z, z, z, z, z, z, z, z]), (.one (.lst [[ff, l1, ff, l1, z, o, z, z, z, z, z, z]]))]
def rh_20 : PV := (.tup [(.one (.lst [[ff, l1, ff, l1, z, o, z, z, z, z, z, z]])), (.one z)])
theorem mh_20 : (ER 60).pure 103 ah_20 = some rh_20 := isV_eq (by kernel_rfl)
def ah_21 : List PV := [(.agg [ff, l1, ff, l1]), (.agg [z, z, z, z, z, z, z, z]), (.one (.lst [[ff, l1, ff, l1, o, z, z, z, z, z, z, o], [ff, l1, ff, l1, z, z, z, z, z, z, z, o], [tt, l1, ff, l1, z, z, z, z, z, z, z, z]]))]
def rh_21 : PV := (.tup [(.one (.lst [[ff, l1, ff, l1, o, z, z, z, z, z, z, o], [ff, l1, ff, l1, z, z, z, z, z, z, z, o], [tt, l1, ff, l1, z, z, z, z, z, z, z, z]])), (.one z)])
theorem mh_21 : (ER 60).pure 103 ah_21 = some rh_21 := isV_eq (by kernel_rfl)
def ah_22 : List PV := [(.agg [ff, l1, ff, l1]), (.agg [z, z, z, z, z, z, z, z]), (.one (.lst [[ff, l1, ff, l1, o, z, z, z, z, z, z, o], [tt, l1, ff, l1, z, z, z, z, z, z, z, z]]))]
def rh_22 : PV := (.tup [(.one (.lst [[ff, l1, ff, l1, o, z, z, z, z, z, z, o], [tt, l1, ff, l1, z, z, z, z, z, z, z, z]])), (.one z)])
theorem mh_22 : (ER 60).pure 103 ah_22 = some rh_22 := isV_eq (by kernel_rfl)
def ah_23 : List PV := [(.agg [ff, l1, ff, l1]), (.agg [z, z, z, z, z, z, z, z]), (.one (.lst [[ff, l1, ff, l1, (i6 (2)), z, z, z, z, z, z, z], [tt, l1, ff, l1, o, z, z, z, z, z, z, z], [tt, l1, ff, l1, z, z, z, z, z, z, z, o], [ff, l1, ff, l1, z, z, z, z, z, z, z, z]]))]
def rh_23 : PV := (.tup [(.one (.lst [[ff, l1, ff, l1, (i6 (2)), z, z, z, z, z, z, z], [tt, l1, ff, l1, o, z, z, z, z, z, z, z], [tt, l1, ff, l1, z, z, z, z, z, z, z, o], [ff, l1, ff, l1, z, z, z, z, z, z, z, z]])), (.one z)])
theorem mh_23 : (ER 60).pure 103 ah_23 = some rh_23 := isV_eq (by kernel_rfl)
def ah_24 : List PV := [(.agg [ff, l1, ff, l1]), (.agg [z, z, z, z, z, z, z, z]), (.one (.lst [[ff, l1, ff, l1, (i6 (2)), z, z, z, z, z, z, z]]))]
def rh_24 : PV := (.tup [(.one (.lst [[ff, l1, ff, l1, (i6 (2)), z, z, z, z, z, z, z]])), (.one z)])
theorem mh_24 : (ER 60).pure 103 ah_24 = some rh_24 := isV_eq (by kernel_rfl)
def ah_25 : List PV := [(.agg [ff, l1, ff, l1]), (.agg [z, z, z, z, z, z, z, z]), (.one (.lst [[ff, l1, ff, l1, (i6 (3)), z, z, z, z, z, z, z]]))]
def rh_25 : PV := (.tup [(.one (.lst [[ff, l1, ff, l1, (i6 (3)), z, z, z, z, z, z, z]])), (.one z)])
theorem mh_25 : (ER 60).pure 103 ah_25 = some rh_25 := isV_eq (by kernel_rfl)
def ah_26 : List PV := [(.agg [ff, l1, ff, l1]), (.agg [z, z, z, z, z, z, z, z]), (.one (.lst [[tt, l1, ff, l1, z, z, z, z, z, z, z, z]]))]
def rh_26 : PV := (.tup [(.one (.lst [[tt, l1, ff, l1, z, z, z, z, z, z, z, z]])), (.one z)])
theorem mh_26 : (ER 60).pure 103 ah_26 = some rh_26 := isV_eq (by kernel_rfl)
def ah_27 : List PV := [(.agg [ff, l1, ff, l1]), (.agg [z, z, z, z, z, z, z, z]), (.one (.lst [[tt, l1, ff, l1, z, z, z, z, z, z, z, (i6 (2))]]))]
def rh_27 : PV := (.tup [(.one (.lst [[tt, l1, ff, l1, z, z, z, z, z, z, z, (i6 (2))]])), (.one z)])
theorem mh_27 : (ER 60).pure 103 ah_27 = some rh_27 := isV_eq (by kernel_rfl)
def ah_28 : List PV := [(.agg [ff, l1, ff, l1]), (.agg [z, z, z, z, z, z, z, z]), (.one (.lst [[tt, l1, ff, l1, o, z, z, z, z, z, z, z], [ff, l1, ff, l1, z, z, z, z, z, z, z, (i6 (2))], [tt, (.lst [[(.int .u32 (3))]]), ff, l1, z, z, z, z, z, z, z, o], [ff, (.lst [[(.int .u32 (2))]]), ff, l1, z, z, z, z, z, z, z, z]]))]
def rh_28 : PV := (.tup [(.one (.lst [[tt, l1, ff, l1, o, z, z, z, z, z, z, z], [ff, l1, ff, l1, z, z, z, z, z, z, z, (i6 (2))], [tt, (.lst [[(.int .u32 (3))]]), ff, l1, z, z, z, z, z, z, z, o], [ff, (.lst [[(.int .u32 (2))]]), ff, l1, z, z, z, z, z, z, z, z]])), (.one z)])
theorem mh_28 : (ER 60).pure 103 ah_28 = some rh_28 := isV_eq (by kernel_rfl)
def ah_29 : List PV := [(.agg [ff, l1, ff, l1]), (.agg [z, z, z, z, z, z, z, z]), (.one (.lst [[tt, l1, ff, l1, (i6 (2)), z, z, z, z, z, z, o], [ff, l1, ff, l1, o, z, z, z, z, z, z, o], [tt, l1, ff, l1, o, z, z, z, z, z, z, z], [tt, l1, ff, l1, z, z, z, z, z, z, z, o], [ff, (.lst [[(.int .u32 (2))]]), ff, l1, z, z, z, z, z, z, z, z]]))]
def rh_29 : PV := (.tup [(.one (.lst [[tt, l1, ff, l1, (i6 (2)), z, z, z, z, z, z, o], [ff, l1, ff, l1, o, z, z, z, z, z, z, o], [tt, l1, ff, l1, o, z, z, z, z, z, z, z], [tt, l1, ff, l1, z, z, z, z, z, z, z, o], [ff, (.lst [[(.int .u32 (2))]]), ff, l1, z, z, z, z, z, z, z, z]])), (.one z)])
theorem mh_29 : (ER 60).pure 103 ah_29 = some rh_29 := isV_eq (by kernel_rfl)
def ah_30 : List PV := [(.agg [ff, l1, ff, l1]), (.agg [z, z, z, z, z, z, z, z]), (.one (.lst []))]
def rh_30 : PV := (.tup [(.one (.lst [])), (.one z)])
theorem mh_30 : (ER 60).pure 103 ah_30 = some rh_30 := isV_eq (by kernel_rfl)
def ah_31 : List PV := [(.agg [ff, l1, ff, l1]), (.agg [z, z, z, z, z, z, z, z]), (.one .nilS)]
def rh_31 : PV := (.tup [(.one (.lst [])), (.one z)])
theorem mh_31 : (ER 60).pure 103 ah_31 = some rh_31 := isV_eq (by kernel_rfl)
def ah_32 : List PV := [(.agg [ff, l1, ff, l1]), (.agg [z, z, z, z, z, z, z, o]), (.one (.lst [[ff, l1, ff, l1, z, z, z, z, z, z, z, z]]))]
def rh_32 : PV := (.tup [(.one (.lst [[ff, l1, ff, l1, z, z, z, z, z, z, z, o]])), (.one z)])
theorem mh_32 : (ER 60).pure 103 ah_32 = some rh_32 := isV_eq (by kernel_rfl)
def ah_33 : List PV := [(.agg [ff, l1, ff, l1]), (.agg [z, z, z, z, z, z, z, o]), (.one (.lst [[ff, l1, ff, l1, z, z, z, z, z, z, z, o]]))]
def rh_33 : PV := (.tup [(.one (.lst [[ff, l1, ff, l1, z, z, z, z, z, z, z, (i6 (2))]])), (.one z)])
theorem mh_33 : (ER 60).pure 103 ah_33 = some rh_33 := isV_eq (by kernel_rfl)
def ah_34 : List PV := [(.agg [ff, l1, ff, l1]), (.agg [z, z, z, z, z, z, z, o]), (.one (.lst [[ff, l1, ff, l1, z, z, z, z, z, z, z, (i6 (2))]]))]
def rh_34 : PV := (.tup [(.one (.lst [[ff, l1, ff, l1, z, z, z, z, z, z, z, (i6 (3))]])), (.one z)])
theorem mh_34 : (ER 60).pure 103 ah_34 = some rh_34 := isV_eq (by kernel_rfl)
def ah_35 : List PV := [(.agg [ff, l1, ff, l1]), (.agg [z, z, z, z, z, z, z, o]), (.one (.lst [[ff, l1, ff, l1, o, z, z, z, z, z, z, z]]))]
def rh_35 : PV := (.tup [(.one (.lst [[ff, l1, ff, l1, o, z, z, z, z, z, z, o]])), (.one z)])
theorem mh_35 : (ER 60).pure 103 ah_35 = some rh_35 := isV_eq (by kernel_rfl)
def ah_36 : List PV := [(.agg [ff, l1, ff, l1]), (.agg [z, z, z, z, z, z, z, o]), (.one (.lst [[ff, l1, ff, l1, o, z, z, z, z, z, z, o], [ff, l1, ff, l1, z, z, z, z, z, z, z, o], [tt, l1, ff, l1, z, z, z, z, z, z, z, z]]))]
def rh_36 : PV := (.tup [(.one (.lst [[ff, l1, ff, l1, o, z, z, z, z, z, z, (i6 (2))], [ff, l1, ff, l1, z, z, z, z, z, z, z, (i6 (2))], [tt, l1, ff, l1, z, z, z, z, z, z, z, o]])), (.one z)])
theorem mh_36 : (ER 60).pure 103 ah_36 = some rh_36 := isV_eq (by kernel_rfl)
def ah_37 : List PV := [(.agg [ff, l1, ff, l1]), (.agg [z, z, z, z, z, z, z, o]), (.one (.lst [[ff, l1, ff, l1, (i6 (2)), z, z, z, z, z, z, z], [tt, l1, ff, l1, o, z, z, z, z, z, z, z], [ff, l1, ff, l1, z, z, z, z, z, z, z, z]]))]
def rh_37 : PV := (.tup [(.one (.lst [[ff, l1, ff, l1, (i6 (2)), z, z, z, z, z, z, o], [tt, l1, ff, l1, o, z, z, z, z, z, z, o], [ff, l1, ff, l1, z, z, z, z, z, z, z, o]])), (.one z)])
theorem mh_37 : (ER 60).pure 103 ah_37 = some rh_37 := isV_eq (by kernel_rfl)
def ah_38 : List PV := [(.agg [ff, l1, ff, l1]), (.agg [z, z, z, z, z, z, z, o]), (.one (.lst [[ff, l1, ff, l1, (i6 (2)), z, z, z, z, z, z, z], [tt, l1, ff, l1, o, z, z, z, z, z, z, z], [tt, l1, ff, l1, z, z, z, z, z, z, z, o], [ff, l1, ff, l1, z, z, z, z, z, z, z, z]]))]
def rh_38 : PV := (.tup [(.one (.lst [[ff, l1, ff, l1, (i6 (2)), z, z, z, z, z, z, o], [tt, l1, ff, l1, o, z, z, z, z, z, z, o], [tt, l1, ff, l1, z, z, z, z, z, z, z, (i6 (2))], [ff, l1, ff, l1, z, z, z, z, z, z, z, o]])), (.one z)])
theorem mh_38 : (ER 60).pure 103 ah_38 = some rh_38 := isV_eq (by kernel_rfl)
def ah_39 : List PV := [(.agg [ff, l1, ff, l1]), (.agg [z, z, z, z, z, z, z, o]), (.one (.lst [[ff, l1, ff, l1, (i6 (2)), z, z, z, z, z, z, z]]))]
def rh_39 : PV := (.tup [(.one (.lst [[ff, l1, ff, l1, (i6 (2)), z, z, z, z, z, z, o]])), (.one z)])
theorem mh_39 : (ER 60).pure 103 ah_39 = some rh_39 := isV_eq (by kernel_rfl)
def ah_40 : List PV := [(.agg [ff, l1, ff, l1]), (.agg [z, z, z, z, z, z, z, o]), (.one (.lst [[ff, l1, ff, l1, (i6 (2)), z, z, z, z, z, z, o], [ff, l1, ff, l1, o, z, z, z, z, z, z, z]]))]
def rh_40 : PV := (.tup [(.one (.lst [[ff, l1, ff, l1, (i6 (2)), z, z, z, z, z, z, (i6 (2))], [ff, l1, ff, l1, o, z, z, z, z, z, z, o]])), (.one z)])
theorem mh_40 : (ER 60).pure 103 ah_40 = some rh_40 := isV_eq (by kernel_rfl)
def ah_41 : List PV := [(.agg [ff, l1, ff, l1]), (.agg [z, z, z, z, z, z, z, o]), (.one (.lst [[ff, l1, ff, l1, (i6 (3)), z, z, z, z, z, z, z]]))]
def rh_41 : PV := (.tup [(.one (.lst [[ff, l1, ff, l1, (i6 (3)), z, z, z, z, z, z, o]])), (.one z)])
theorem mh_41 : (ER 60).pure 103 ah_41 = some rh_41 := isV_eq (by kernel_rfl)
def ah_42 : List PV := [(.agg [ff, l1, ff, l1]), (.agg [z, z, z, z, z, z, z, o]), (.one (.lst []))]
def rh_42 : PV := (.tup [(.one (.lst [])), (.one z)])
theorem mh_42 : (ER 60).pure 103 ah_42 = some rh_42 := isV_eq (by kernel_rfl)
def ah_43 : List PV := [(.agg [ff, l1, ff, l1]), (.agg [o, z, z, z, z, z, z, z]), (.one (.lst [[ff, l1, ff, l1, o, z, z, z, z, z, z, z]]))]
def rh_43 : PV := (.tup [(.one (.lst [[ff, l1, ff, l1, (i6 (2)), z, z, z, z, z, z, z]])), (.one z)])
theorem mh_43 : (ER 60).pure 103 ah_43 = some rh_43 := isV_eq (by kernel_rfl)
def ah_44 : List PV := [(.agg [ff, l1, ff, l1]), (.agg [o, z, z, z, z, z, z, z]), (.one (.lst [[ff, l1, ff, l1, o, z, z, z, z, z, z, o], [ff, l1, ff, l1, z, z, z, z, z, z, z, o], [tt, l1, ff, l1, z, z, z, z, z, z, z, z]]))]
def rh_44 : PV := (.tup [(.one (.lst [[ff, l1, ff, l1, (i6 (2)), z, z, z, z, z, z, o], [ff, l1, ff, l1, o, z, z, z, z, z, z, o], [tt, l1, ff, l1, o, z, z, z, z, z, z, z]])), (.one z)])
theorem mh_44 : (ER 60).pure 103 ah_44 = some rh_44 := isV_eq (by kernel_rfl)
def ah_45 : List PV := [(.agg [ff, l1, ff, l1]), (.agg [o, z, z, z, z, z, z, z]), (.one (.lst [[ff, l1, ff, l1, o, z, z, z, z, z, z, o], [tt, l1, ff, l1, z, z, z, z, z, z, z, z]]))]
def rh_45 : PV := (.tup [(.one (.lst [[ff, l1, ff, l1, (i6 (2)), z, z, z, z, z, z, o], [tt, l1, ff, l1, o, z, z, z, z, z, z, z]])), (.one z)])
theorem mh_45 : (ER 60).pure 103 ah_45 = some rh_45 := isV_eq (by kernel_rfl)
def ah_46 : List PV := [(.agg [ff, l1, ff, l1]), (.agg [o, z, z, z, z, z, z, z]), (.one (.lst [[ff, l1, ff, l1, (i6 (2)), z, z, z, z, z, z, z], [tt, l1, ff, l1, o, z, z, z, z, z, z, z], [tt, l1, ff, l1, z, z, z, z, z, z, z, o], [ff, l1, ff, l1, z, z, z, z, z, z, z, z]]))]
def rh_46 : PV := (.tup [(.one (.lst [[ff, l1, ff, l1, (i6 (3)), z, z, z, z, z, z, z], [tt, l1, ff, l1, (i6 (2)), z, z, z, z, z, z, z], [tt, l1, ff, l1, o, z, z, z, z, z, z, o], [ff, l1, ff, l1, o, z, z, z, z, z, z, z]])), (.one z)])
theorem mh_46 : (ER 60).pure 103 ah_46 = some rh_46 := isV_eq (by kernel_rfl)
def ah_47 : List PV := [(.agg [ff, l1, ff, l1]), (.agg [o, z, z, z, z, z, z, z]), (.one (.lst [[ff, l1, ff, l1, (i6 (2)), z, z, z, z, z, z, z]]))]
def rh_47 : PV := (.tup [(.one (.lst [[ff, l1, ff, l1, (i6 (3)), z, z, z, z, z, z, z]])), (.one z)])
theorem mh_47 : (ER 60).pure 103 ah_47 = some rh_47 := isV_eq (by kernel_rfl)
def ah_48 : List PV := [(.agg [ff, l1, ff, l1]), (.agg [o, z, z, z, z, z, z, z]), (.one (.lst [[tt, l1, ff, l1, z, z, z, z, z, z, z, z]]))]
def rh_48 : PV := (.tup [(.one (.lst [[tt, l1, ff, l1, o, z, z, z, z, z, z, z]])), (.one z)])
theorem mh_48 : (ER 60).pure 103 ah_48 = some rh_48 := isV_eq (by kernel_rfl)
def ah_49 : List PV := [(.agg [ff, l1, ff, l1]), (.agg [o, z, z, z, z, z, z, z]), (.one (.lst [[tt, l1, ff, l1, o, z, z, z, z, z, z, z], [ff, l1, ff, l1, z, z, z, z, z, z, z, (i6 (2))], [tt, (.lst [[(.int .u32 (3))]]), ff, l1, z, z, z, z, z, z, z, o], [ff, (.lst [[(.int .u32 (2))]]), ff, l1, z, z, z, z, z, z, z, z]]))]
def rh_49 : PV := (.tup [(.one (.lst [[tt, l1, ff, l1, (i6 (2)), z, z, z, z, z, z, z], [ff, l1, ff, l1, o, z, z, z, z, z, z, (i6 (2))], [tt, (.lst [[(.int .u32 (3))]]), ff, l1, o, z, z, z, z, z, z, o], [ff, (.lst [[(.int .u32 (2))]]), ff, l1, o, z, z, z, z, z, z, z]])), (.one z)])
theorem mh_49 : (ER 60).pure 103 ah_49 = some rh_49 := isV_eq (by kernel_rfl)
def ah_50 : List PV := [(.agg [ff, l1, ff, l1]), (.agg [o, z, z, z, z, z, z, z]), (.one (.lst []))]
def rh_50 : PV := (.tup [(.one (.lst [])), (.one z)])
theorem mh_50 : (ER 60).pure 103 ah_50 = some rh_50 := isV_eq (by kernel_rfl)
def ah_51 : List PV := [(.agg [ff, l1, ff, l1]), (.agg [(i6 (2)), z, z, z, z, z, z, z]), (.one (.lst [[ff, l1, ff, l1, o, z, z, z, z, z, z, o], [ff, l1, ff, l1, z, z, z, z, z, z, z, o], [tt, l1, ff, l1, z, z, z, z, z, z, z, z]]))]
def rh_51 : PV := (.tup [(.one (.lst [[ff, l1, ff, l1, (i6 (3)), z, z, z, z, z, z, o], [ff, l1, ff, l1, (i6 (2)), z, z, z, z, z, z, o], [tt, l1, ff, l1, (i6 (2)), z, z, z, z, z, z, z]])), (.one z)])
theorem mh_51 : (ER 60).pure 103 ah_51 = some rh_51 := isV_eq (by kernel_rfl)
def ah_52 : List PV := [(.agg [ff, l1, ff, l1]), (.agg [(i6 (2)), z, z, z, z, z, z, z]), (.one (.lst [[ff, l1, ff, l1, o, z, z, z, z, z, z, o], [tt, l1, ff, l1, z, z, z, z, z, z, z, z]]))]
def rh_52 : PV := (.tup [(.one (.lst [[ff, l1, ff, l1, (i6 (3)), z, z, z, z, z, z, o], [tt, l1, ff, l1, (i6 (2)), z, z, z, z, z, z, z]])), (.one z)])
theorem mh_52 : (ER 60).pure 103 ah_52 = some rh_52 := isV_eq (by kernel_rfl)
def ah_53 : List PV := [(.agg [ff, l1, ff, l1]), (.agg [(i6 (2)), z, z, z, z, z, z, z]), (.one (.lst [[tt, l1, ff, l1, z, z, z, z, z, z, z, z]]))]
def rh_53 : PV := (.tup [(.one (.lst [[tt, l1, ff, l1, (i6 (2)), z, z, z, z, z, z, z]])), (.one z)])
theorem mh_53 : (ER 60).pure 103 ah_53 = some rh_53 := isV_eq (by kernel_rfl)
def ah_54 : List PV := [(.agg [ff, l1, ff, l1]), (.agg [(i6 (2)), z, z, z, z, z, z, z]), (.one (.lst []))]
def rh_54 : PV := (.tup [(.one (.lst [])), (.one z)])
theorem mh_54 : (ER 60).pure 103 ah_54 = some rh_54 := isV_eq (by kernel_rfl)
def ah_55 : List PV := [(.agg [ff, (.lst [[(.int .u32 (2))]]), ff, l1]), (.agg [z, z, z, z, z, z, z, z]), (.one (.lst [[ff, l1, ff, l1, o, z, z, z, z, z, z, o], [ff, l1, ff, l1, z, z, z, z, z, z, z, o], [tt, l1, ff, l1, z, z, z, z, z, z, z, z]]))]
def rh_55 : PV := (.tup [(.one (.lst [[ff, (.lst [[(.int .u32 (2))]]), ff, l1, o, z, z, z, z, z, z, o], [ff, (.lst [[(.int .u32 (2))]]), ff, l1, z, z, z, z, z, z, z, o], [tt, (.lst [[(.int .u32 (2))]]), ff, l1, z, z, z, z, z, z, z, z]])), (.one z)])
theorem mh_55 : (ER 60).pure 103 ah_55 = some rh_55 := isV_eq (by kernel_rfl)
def ah_56 : List PV := [(.agg [ff, (.lst [[(.int .u32 (3))]]), ff, l1]), (.agg [z, z, z, z, z, z, z, z]), (.one (.lst [[ff, l1, ff, l1, o, z, z, z, z, z, z, o], [ff, l1, ff, l1, z, z, z, z, z, z, z, o], [tt, l1, ff, l1, z, z, z, z, z, z, z, z]]))]
def rh_56 : PV := (.tup [(.one (.lst [[ff, (.lst [[(.int .u32 (3))]]), ff, l1, o, z, z, z, z, z, z, o], [ff, (.lst [[(.int .u32 (3))]]), ff, l1, z, z, z, z, z, z, z, o], [tt, (.lst [[(.int .u32 (3))]]), ff, l1, z, z, z, z, z, z, z, z]])), (.one z)])
theorem mh_56 : (ER 60).pure 103 ah_56 = some rh_56 := isV_eq (by kernel_rfl)
def ah_57 : List PV := [(.agg [tt, l1, ff, l1]), (.agg [z, z, z, z, z, z, z, z]), (.one (.lst [[ff, l1, ff, l1, z, z, z, z, z, z, z, z]]))]
def rh_57 : PV := (.tup [(.one (.lst [[tt, l1, ff, l1, z, z, z, z, z, z, z, z]])), (.one z)])
theorem mh_57 : (ER 60).pure 103 ah_57 = some rh_57 := isV_eq (by kernel_rfl)
def ah_58 : List PV := [(.agg [tt, l1, ff, l1]), (.agg [z, z, z, z, z, z, z, z]), (.one (.lst [[ff, l1, ff, l1, o, z, z, z, z, z, z, o], [ff, l1, ff, l1, z, z, z, z, z, z, z, o], [tt, l1, ff, l1, z, z, z, z, z, z, z, z]]))]
def rh_58 : PV := (.tup [(.one (.lst [[tt, l1, ff, l1, o, z, z, z, z, z, z, o], [tt, l1, ff, l1, z, z, z, z, z, z, z, o], [ff, l1, ff, l1, z, z, z, z, z, z, z, z]])), (.one z)])
theorem mh_58 : (ER 60).pure 103 ah_58 = some rh_58 := isV_eq (by kernel_rfl)
def ah_59 : List PV := [(.agg [tt, l1, ff, l1]), (.agg [z, z, z, z, z, z, z, z]), (.one (.lst [[tt, l1, ff, l1, z, z, z, z, z, z, z, z]]))]
def rh_59 : PV := (.tup [(.one (.lst [[ff, l1, ff, l1, z, z, z, z, z, z, z, z]])), (.one z)])
theorem mh_59 : (ER 60).pure 103 ah_59 = some rh_59 := isV_eq (by kernel_rfl)
def ah_60 : List PV := [(.agg [tt, l1, ff, l1]), (.agg [z, z, z, z, z, z, z, z]), (.one (.lst [[tt, l1, ff, l1, z, z, z, z, z, z, z, o]]))]
def rh_60 : PV := (.tup [(.one (.lst [[ff, l1, ff, l1, z, z, z, z, z, z, z, o]])), (.one z)])
theorem mh_60 : (ER 60).pure 103 ah_60 = some rh_60 := isV_eq (by kernel_rfl)
def ah_61 : List PV := [(.agg [tt, l1, ff, l1]), (.agg [z, z, z, z, z, z, z, z]), (.one (.lst [[tt, l1, ff, l1, z, z, z, z, z, z, z, (i6 (2))]]))]
def rh_61 : PV := (.tup [(.one (.lst [[ff, l1, ff, l1, z, z, z, z, z, z, z, (i6 (2))]])), (.one z)])
theorem mh_61 : (ER 60).pure 103 ah_61 = some rh_61 := isV_eq (by kernel_rfl)
def ah_62 : List PV := [(.agg [tt, l1, ff, l1]), (.agg [z, z, z, z, z, z, z, z]), (.one (.lst [[tt, l1, ff, l1, z, z, z, z, z, z, z, (i6 (3))]]))]
def rh_62 : PV := (.tup [(.one (.lst [[ff, l1, ff, l1, z, z, z, z, z, z, z, (i6 (3))]])), (.one z)])
theorem mh_62 : (ER 60).pure 103 ah_62 = some rh_62 := isV_eq (by kernel_rfl)
def ah_63 : List PV := [(.agg [tt, l1, ff, l1]), (.agg [z, z, z, z, z, z, z, z]), (.one (.lst [[tt, l1, ff, l1, o, z, z, z, z, z, z, z]]))]
def rh_63 : PV := (.tup [(.one (.lst [[ff, l1, ff, l1, o, z, z, z, z, z, z, z]])), (.one z)])
theorem mh_63 : (ER 60).pure 103 ah_63 = some rh_63 := isV_eq (by kernel_rfl)
def ah_64 : List PV := [(.agg [tt, l1, ff, l1]), (.agg [z, z, z, z, z, z, z, z]), (.one (.lst [[tt, l1, ff, l1, o, z, z, z, z, z, z, o], [ff, l1, ff, l1, z, z, z, z, z, z, z, z]]))]
def rh_64 : PV := (.tup [(.one (.lst [[ff, l1, ff, l1, o, z, z, z, z, z, z, o], [tt, l1, ff, l1, z, z, z, z, z, z, z, z]])), (.one z)])
theorem mh_64 : (ER 60).pure 103 ah_64 = some rh_64 := isV_eq (by kernel_rfl)
def ah_65 : List PV := [(.agg [tt, l1, ff, l1]), (.agg [z, z, z, z, z, z, z, z]), (.one (.lst [[tt, l1, ff, l1, o, z, z, z, z, z, z, o], [tt, l1, ff, l1, z, z, z, z, z, z, z, o], [ff, l1, ff, l1, z, z, z, z, z, z, z, z]]))]
def rh_65 : PV := (.tup [(.one (.lst [[ff, l1, ff, l1, o, z, z, z, z, z, z, o], [ff, l1, ff, l1, z, z, z, z, z, z, z, o], [tt, l1, ff, l1, z, z, z, z, z, z, z, z]])), (.one z)])
theorem mh_65 : (ER 60).pure 103 ah_65 = some rh_65 := isV_eq (by kernel_rfl)
def ah_66 : List PV := [(.agg [tt, l1, ff, l1]), (.agg [z, z, z, z, z, z, z, z]), (.one (.lst [[tt, l1, ff, l1, (i6 (2)), z, z, z, z, z, z, z], [ff, l1, ff, l1, o, z, z, z, z, z, z, z], [ff, l1, ff, l1, z, z, z, z, z, z, z, o], [tt, l1, ff, l1, z, z, z, z, z, z, z, z]]))]
def rh_66 : PV := (.tup [(.one (.lst [[ff, l1, ff, l1, (i6 (2)), z, z, z, z, z, z, z], [tt, l1, ff, l1, o, z, z, z, z, z, z, z], [tt, l1, ff, l1, z, z, z, z, z, z, z, o], [ff, l1, ff, l1, z, z, z, z, z, z, z, z]])), (.one z)])
theorem mh_66 : (ER 60).pure 103 ah_66 = some rh_66 := isV_eq (by kernel_rfl)
def ah_67 : List PV := [(.agg [tt, l1, ff, l1]), (.agg [z, z, z, z, z, z, z, z]), (.one (.lst [[tt, l1, ff, l1, (i6 (2)), z, z, z, z, z, z, z], [ff, l1, ff, l1, o, z, z, z, z, z, z, z], [tt, l1, ff, l1, z, z, z, z, z, z, z, z]]))]
def rh_67 : PV := (.tup [(.one (.lst [[ff, l1, ff, l1, (i6 (2)), z, z, z, z, z, z, z], [tt, l1, ff, l1, o, z, z, z, z, z, z, z], [ff, l1, ff, l1, z, z, z, z, z, z, z, z]])), (.one z)])
theorem mh_67 : (ER 60).pure 103 ah_67 = some rh_67 := isV_eq (by kernel_rfl)
def ah_68 : List PV := [(.agg [tt, l1, ff, l1]), (.agg [z, z, z, z, z, z, z, z]), (.one (.lst [[tt, l1, ff, l1, (i6 (2)), z, z, z, z, z, z, z]]))]
def rh_68 : PV := (.tup [(.one (.lst [[ff, l1, ff, l1, (i6 (2)), z, z, z, z, z, z, z]])), (.one z)])
theorem mh_68 : (ER 60).pure 103 ah_68 = some rh_68 := isV_eq (by kernel_rfl)
def ah_69 : List PV := [(.agg [tt, l1, ff, l1]), (.agg [z, z, z, z, z, z, z, z]), (.one (.lst [[tt, l1, ff, l1, (i6 (2)), z, z, z, z, z, z, o], [tt, l1, ff, l1, o, z, z, z, z, z, z, z]]))]
def rh_69 : PV := (.tup [(.one (.lst [[ff, l1, ff, l1, (i6 (2)), z, z, z, z, z, z, o], [ff, l1, ff, l1, o, z, z, z, z, z, z, z]])), (.one z)])
theorem mh_69 : (ER 60).pure 103 ah_69 = some rh_69 := isV_eq (by kernel_rfl)
def ah_70 : List PV := [(.agg [tt, l1, ff, l1]), (.agg [z, z, z, z, z, z, z, z]), (.one (.lst [[tt, l1, ff, l1, (i6 (2)), z, z, z, z, z, z, (i6 (2))], [tt, l1, ff, l1, o, z, z, z, z, z, z, o], [tt, l1, ff, l1, z, z, z, z, z, z, z, z]]))]
def rh_70 : PV := (.tup [(.one (.lst [[ff, l1, ff, l1, (i6 (2)), z, z, z, z, z, z, (i6 (2))], [ff, l1, ff, l1, o, z, z, z, z, z, z, o], [ff, l1, ff, l1, z, z, z, z, z, z, z, z]])), (.one z)])
theorem mh_70 : (ER 60).pure 103 ah_70 = some rh_70 := isV_eq (by kernel_rfl)
def ah_71 : List PV := [(.agg [tt, l1, ff, l1]), (.agg [z, z, z, z, z, z, z, z]), (.one (.lst []))]
def rh_71 : PV := (.tup [(.one (.lst [])), (.one z)])
theorem mh_71 : (ER 60).pure 103 ah_71 = some rh_71 := isV_eq (by kernel_rfl)
def ah_72 : List PV := [(.agg [tt, l1, ff, l1]), (.agg [z, z, z, z, z, z, z, z]), (.one .nilS)]
def rh_72 : PV := (.tup [(.one (.lst [])), (.one z)])
theorem mh_72 : (ER 60).pure 103 ah_72 = some rh_72 := isV_eq (by kernel_rfl)
def ah_73 : List PV := [(.one (.lst [[ff, l1, ff, l1, z, z, z, z, z, z, z, z]])), (.one (.lst [[o, o, o, o, o, o, o, o], [z, z, z, z, z, z, z, (i6 (-1))], [z, z, z, z, z, z, (i6 (-1)), z], [z, z, z, z, z, (i6 (-1)), z, z], [z, z, z, z, (i6 (-1)), z, z, z], [z, z, z, (i6 (-1)), z, z, z, z], [z, z, (i6 (-1)), z, z, z, z, z], [z, (i6 (-1)), z, z, z, z, z, z]]))]
def rh_73 : PV := (.tup [(.agg [ff, l1, ff, l1, z, z, z, z, z, z, z, z]), (.one tt)])
theorem mh_73 : (ER 60).pure 137 ah_73 = some rh_73 := isV_eq (by kernel_rfl)
def ah_74 : List PV := [(.one (.lst [[ff, l1, ff, l1, z, z, z, z, z, z, z, o], [tt, l1, ff, l1, z, z, z, z, z, z, z, z]])), (.one (.lst [[o, o, o, o, o, o, o, o], [z, z, z, z, z, z, z, (i6 (-1))], [z, z, z, z, z, z, (i6 (-1)), z], [z, z, z, z, z, (i6 (-1)), z, z], [z, z, z, z, (i6 (-1)), z, z, z], [z, z, z, (i6 (-1)), z, z, z, z], [z, z, (i6 (-1)), z, z, z, z, z], [z, (i6 (-1)), z, z, z, z, z, z]]))]
def rh_74 : PV := (.tup [(.agg [ff, l1, ff, l1, z, z, z, z, z, z, z, o]), (.one tt)])
theorem mh_74 : (ER 60).pure 137 ah_74 = some rh_74 := isV_eq (by kernel_rfl)
def ah_75 : List PV := [(.one (.lst [[ff, l1, ff, l1, z, o, z, z, z, z, z, z]])), (.one (.lst [[o, o, o, o, o, o, o, o], [z, z, z, z, z, z, z, (i6 (-1))], [z, z, z, z, z, z, (i6 (-1)), z], [z, z, z, z, z, (i6 (-1)), z, z], [z, z, z, z, (i6 (-1)), z, z, z], [z, z, z, (i6 (-1)), z, z, z, z], [z, z, (i6 (-1)), z, z, z, z, z], [z, (i6 (-1)), z, z, z, z, z, z]]))]
def rh_75 : PV := (.tup [(.agg [ff, l1, ff, l1, z, o, z, z, z, z, z, z]), (.one tt)])
theorem mh_75 : (ER 60).pure 137 ah_75 = some rh_75 := isV_eq (by kernel_rfl)
def ah_76 : List PV := [(.one (.lst [[ff, l1, ff, l1, o, z, z, z, z, z, z, z], [ff, l1, ff, l1, z, z, z, z, z, z, z, o], [tt, l1, ff, l1, z, z, z, z, z, z, z, z]])), (.one (.lst [[o, o, o, o, o, o, o, o], [z, z, z, z, z, z, z, (i6 (-1))], [z, z, z, z, z, z, (i6 (-1)), z], [z, z, z, z, z, (i6 (-1)), z, z], [z, z, z, z, (i6 (-1)), z, z, z], [z, z, z, (i6 (-1)), z, z, z, z], [z, z, (i6 (-1)), z, z, z, z, z], [z, (i6 (-1)), z, z, z, z, z, z]]))]
def rh_76 : PV := (.tup [(.agg [ff, l1, ff, l1, o, z, z, z, z, z, z, z]), (.one tt)])
theorem mh_76 : (ER 60).pure 137 ah_76 = some rh_76 := isV_eq (by kernel_rfl)
def ah_77 : List PV := [(.one (.lst [[ff, l1, ff, l1, o, z, z, z, z, z, z, o], [ff, l1, ff, l1, z, z, z, z, z, z, z, o], [tt, l1, ff, l1, z, z, z, z, z, z, z, z]])), (.one (.lst [[o, o, o, o, o, o, o, o], [z, z, z, z, z, z, z, (i6 (-1))], [z, z, z, z, z, z, (i6 (-1)), z], [z, z, z, z, z, (i6 (-1)), z, z], [z, z, z, z, (i6 (-1)), z, z, z], [z, z, z, (i6 (-1)), z, z, z, z], [z, z, (i6 (-1)), z, z, z, z, z], [z, (i6 (-1)), z, z, z, z, z, z]]))]
def rh_77 : PV := (.tup [(.agg [ff, l1, ff, l1, o, z, z, z, z, z, z, o]), (.one tt)])
theorem mh_77 : (ER 60).pure 137 ah_77 = some rh_77 := isV_eq (by kernel_rfl)
def ah_78 : List PV := [(.one (.lst [[ff, l1, ff, l1, (i6 (2)), z, z, z, z, z, z, z], [ff, l1, ff, l1, o, z, z, z, z, z, z, o], [tt, l1, ff, l1, o, z, z, z, z, z, z, z]])), (.one (.lst [[o, o, o, o, o, o, o, o], [z, z, z, z, z, z, z, (i6 (-1))], [z, z, z, z, z, z, (i6 (-1)), z], [z, z, z, z, z, (i6 (-1)), z, z], [z, z, z, z, (i6 (-1)), z, z, z], [z, z, z, (i6 (-1)), z, z, z, z], [z, z, (i6 (-1)), z, z, z, z, z], [z, (i6 (-1)), z, z, z, z, z, z]]))]
def rh_78 : PV := (.tup [(.agg [ff, l1, ff, l1, (i6 (2)), z, z, z, z, z, z, z]), (.one tt)])
theorem mh_78 : (ER 60).pure 137 ah_78 = some rh_78 := isV_eq (by kernel_rfl)
def ah_79 : List PV := [(.one (.lst [[ff, l1, ff, l1, (i6 (2)), z, z, z, z, z, z, z], [ff, (.lst [[(.int .u32 (3))]]), ff, l1, o, z, z, z, z, z, z, o], [tt, (.lst [[(.int .u32 (2))]]), ff, l1, o, z, z, z, z, z, z, z], [ff, l1, ff, l1, z, z, z, z, z, z, z, (i6 (2))], [tt, l1, ff, l1, z, z, z, z, z, z, z, o]])), (.one (.lst [[o, o, o, o, o, o, o, o], [z, z, z, z, z, z, z, (i6 (-1))], [z, z, z, z, z, z, (i6 (-1)), z], [z, z, z, z, z, (i6 (-1)), z, z], [z, z, z, z, (i6 (-1)), z, z, z], [z, z, z, (i6 (-1)), z, z, z, z], [z, z, (i6 (-1)), z, z, z, z, z], [z, (i6 (-1)), z, z, z, z, z, z]]))]
def rh_79 : PV := (.tup [(.agg [ff, l1, ff, l1, (i6 (2)), z, z, z, z, z, z, z]), (.one tt)])
theorem mh_79 : (ER 60).pure 137 ah_79 = some rh_79 := isV_eq (by kernel_rfl)
def ah_80 : List PV := [(.one (.lst [[ff, l1, ff, l1, (i6 (2)), z, z, z, z, z, z, z], [tt, l1, ff, l1, o, z, z, z, z, z, z, z], [tt, l1, ff, l1, z, z, z, z, z, z, z, o], [ff, l1, ff, l1, z, z, z, z, z, z, z, z]])), (.one (.lst [[o, o, o, o, o, o, o, o], [z, z, z, z, z, z, z, (i6 (-1))], [z, z, z, z, z, z, (i6 (-1)), z], [z, z, z, z, z, (i6 (-1)), z, z], [z, z, z, z, (i6 (-1)), z, z, z], [z, z, z, (i6 (-1)), z, z, z, z], [z, z, (i6 (-1)), z, z, z, z, z], [z, (i6 (-1)), z, z, z, z, z, z]]))]
def rh_80 : PV := (.tup [(.agg [ff, l1, ff, l1, (i6 (2)), z, z, z, z, z, z, z]), (.one tt)])
theorem mh_80 : (ER 60).pure 137 ah_80 = some rh_80 := isV_eq (by kernel_rfl)
def ah_81 : List PV := [(.one (.lst [[ff, l1, ff, l1, (i6 (2)), z, z, z, z, z, z, o], [tt, l1, ff, l1, (i6 (2)), z, z, z, z, z, z, z]])), (.one (.lst [[o, o, o, o, o, o, o, o], [z, z, z, z, z, z, z, (i6 (-1))], [z, z, z, z, z, z, (i6 (-1)), z], [z, z, z, z, z, (i6 (-1)), z, z], [z, z, z, z, (i6 (-1)), z, z, z], [z, z, z, (i6 (-1)), z, z, z, z], [z, z, (i6 (-1)), z, z, z, z, z], [z, (i6 (-1)), z, z, z, z, z, z]]))]
def rh_81 : PV := (.tup [(.agg [ff, l1, ff, l1, (i6 (2)), z, z, z, z, z, z, o]), (.one tt)])
theorem mh_81 : (ER 60).pure 137 ah_81 = some rh_81 := isV_eq (by kernel_rfl)
def ah_82 : List PV := [(.one (.lst [[ff, l1, ff, l1, (i6 (3)), z, z, z, z, z, z, z]])), (.one (.lst [[o, o, o, o, o, o, o, o], [z, z, z, z, z, z, z, (i6 (-1))], [z, z, z, z, z, z, (i6 (-1)), z], [z, z, z, z, z, (i6 (-1)), z, z], [z, z, z, z, (i6 (-1)), z, z, z], [z, z, z, (i6 (-1)), z, z, z, z], [z, z, (i6 (-1)), z, z, z, z, z], [z, (i6 (-1)), z, z, z, z, z, z]]))]
def rh_82 : PV := (.tup [(.agg [ff, l1, ff, l1, (i6 (3)), z, z, z, z, z, z, z]), (.one tt)])
theorem mh_82 : (ER 60).pure 137 ah_82 = some rh_82 := isV_eq (by kernel_rfl)
def ah_83 : List PV := [(.one (.lst [[ff, (.lst [[(.int .u32 (2))]]), ff, l1, z, z, z, z, z, z, z, z]])), (.one (.lst [[o, o, o, o, o, o, o, o], [z, z, z, z, z, z, z, (i6 (-1))], [z, z, z, z, z, z, (i6 (-1)), z], [z, z, z, z, z, (i6 (-1)), z, z], [z, z, z, z, (i6 (-1)), z, z, z], [z, z, z, (i6 (-1)), z, z, z, z], [z, z, (i6 (-1)), z, z, z, z, z], [z, (i6 (-1)), z, z, z, z, z, z]]))]
def rh_83 : PV := (.tup [(.agg [ff, (.lst [[(.int .u32 (2))]]), ff, l1, z, z, z, z, z, z, z, z]), (.one tt)])
theorem mh_83 : (ER 60).pure 137 ah_83 = some rh_83 := isV_eq (by kernel_rfl)
def ah_84 : List PV := [(.one (.lst [[ff, (.lst [[(.int .u32 (2))]]), ff, l1, o, z, z, z, z, z, z, o], [tt, l1, ff, l1, o, z, z, z, z, z, z, z], [ff, l1, ff, l1, z, z, z, z, z, z, z, (i6 (2))], [tt, l1, ff, l1, z, z, z, z, z, z, z, o]])), (.one (.lst [[o, o, o, o, o, o, o, o], [z, z, z, z, z, z, z, (i6 (-1))], [z, z, z, z, z, z, (i6 (-1)), z], [z, z, z, z, z, (i6 (-1)), z, z], [z, z, z, z, (i6 (-1)), z, z, z], [z, z, z, (i6 (-1)), z, z, z, z], [z, z, (i6 (-1)), z, z, z, z, z], [z, (i6 (-1)), z, z, z, z, z, z]]))]
def rh_84 : PV := (.tup [(.agg [ff, (.lst [[(.int .u32 (2))]]), ff, l1, o, z, z, z, z, z, z, o]), (.one tt)])
theorem mh_84 : (ER 60).pure 137 ah_84 = some rh_84 := isV_eq (by kernel_rfl)
def ah_85 : List PV := [(.one (.lst [[ff, (.lst [[(.int .u32 (3))]]), ff, l1, o, z, z, z, z, z, z, o], [tt, l1, ff, l1, o, z, z, z, z, z, z, z], [ff, l1, ff, l1, z, z, z, z, z, z, z, (i6 (2))], [tt, l1, ff, l1, z, z, z, z, z, z, z, z]])), (.one (.lst [[o, o, o, o, o, o, o, o], [z, z, z, z, z, z, z, (i6 (-1))], [z, z, z, z, z, z, (i6 (-1)), z], [z, z, z, z, z, (i6 (-1)), z, z], [z, z, z, z, (i6 (-1)), z, z, z], [z, z, z, (i6 (-1)), z, z, z, z], [z, z, (i6 (-1)), z, z, z, z, z], [z, (i6 (-1)), z, z, z, z, z, z]]))]
def rh_85 : PV := (.tup [(.agg [ff, (.lst [[(.int .u32 (3))]]), ff, l1, o, z, z, z, z, z, z, o]), (.one tt)])
theorem mh_85 : (ER 60).pure 137 ah_85 = some rh_85 := isV_eq (by kernel_rfl)
def ah_86 : List PV := [(.one (.lst [[tt, l1, ff, l1, z, z, z, z, z, z, z, z]])), (.one (.lst [[o, o, o, o, o, o, o, o], [z, z, z, z, z, z, z, (i6 (-1))], [z, z, z, z, z, z, (i6 (-1)), z], [z, z, z, z, z, (i6 (-1)), z, z], [z, z, z, z, (i6 (-1)), z, z, z], [z, z, z, (i6 (-1)), z, z, z, z], [z, z, (i6 (-1)), z, z, z, z, z], [z, (i6 (-1)), z, z, z, z, z, z]]))]
def rh_86 : PV := (.tup [(.agg [tt, l1, ff, l1, z, z, z, z, z, z, z, z]), (.one tt)])
theorem mh_86 : (ER 60).pure 137 ah_86 = some rh_86 := isV_eq (by kernel_rfl)
def ah_87 : List PV := [(.one (.lst [[tt, l1, ff, l1, z, z, z, z, z, z, z, o], [ff, l1, ff, l1, z, z, z, z, z, z, z, z]])), (.one (.lst [[o, o, o, o, o, o, o, o], [z, z, z, z, z, z, z, (i6 (-1))], [z, z, z, z, z, z, (i6 (-1)), z], [z, z, z, z, z, (i6 (-1)), z, z], [z, z, z, z, (i6 (-1)), z, z, z], [z, z, z, (i6 (-1)), z, z, z, z], [z, z, (i6 (-1)), z, z, z, z, z], [z, (i6 (-1)), z, z, z, z, z, z]]))]
def rh_87 : PV := (.tup [(.agg [tt, l1, ff, l1, z, z, z, z, z, z, z, o]), (.one tt)])
theorem mh_87 : (ER 60).pure 137 ah_87 = some rh_87 := isV_eq (by kernel_rfl)
def ah_88 : List PV := [(.one (.lst [[tt, l1, ff, l1, o, z, z, z, z, z, z, z], [ff, l1, ff, l1, z, z, z, z, z, z, z, (i6 (2))], [tt, (.lst [[(.int .u32 (3))]]), ff, l1, z, z, z, z, z, z, z, o], [ff, (.lst [[(.int .u32 (2))]]), ff, l1, z, z, z, z, z, z, z, z]])), (.one (.lst [[o, o, o, o, o, o, o, o], [z, z, z, z, z, z, z, (i6 (-1))], [z, z, z, z, z, z, (i6 (-1)), z], [z, z, z, z, z, (i6 (-1)), z, z], [z, z, z, z, (i6 (-1)), z, z, z], [z, z, z, (i6 (-1)), z, z, z, z], [z, z, (i6 (-1)), z, z, z, z, z], [z, (i6 (-1)), z, z, z, z, z, z]]))]
def rh_88 : PV := (.tup [(.agg [ff, l1, ff, l1, z, z, z, z, z, z, z, (i6 (2))]), (.one tt)])
theorem mh_88 : (ER 60).pure 137 ah_88 = some rh_88 := isV_eq (by kernel_rfl)
def ah_89 : List PV := [(.one (.lst [[tt, l1, ff, l1, o, z, z, z, z, z, z, z], [tt, l1, ff, l1, z, z, z, z, z, z, z, o], [ff, l1, ff, l1, z, z, z, z, z, z, z, z]])), (.one (.lst [[o, o, o, o, o, o, o, o], [z, z, z, z, z, z, z, (i6 (-1))], [z, z, z, z, z, z, (i6 (-1)), z], [z, z, z, z, z, (i6 (-1)), z, z], [z, z, z, z, (i6 (-1)), z, z, z], [z, z, z, (i6 (-1)), z, z, z, z], [z, z, (i6 (-1)), z, z, z, z, z], [z, (i6 (-1)), z, z, z, z, z, z]]))]
def rh_89 : PV := (.tup [(.agg [tt, l1, ff, l1, o, z, z, z, z, z, z, z]), (.one tt)])
theorem mh_89 : (ER 60).pure 137 ah_89 = some rh_89 := isV_eq (by kernel_rfl)
def ah_90 : List PV := [(.one (.lst [[tt, l1, ff, l1, o, z, z, z, z, z, z, z], [tt, (.lst [[(.int .u32 (3))]]), ff, l1, z, z, z, z, z, z, z, o], [ff, (.lst [[(.int .u32 (2))]]), ff, l1, z, z, z, z, z, z, z, z]])), (.one (.lst [[o, o, o, o, o, o, o, o], [z, z, z, z, z, z, z, (i6 (-1))], [z, z, z, z, z, z, (i6 (-1)), z], [z, z, z, z, z, (i6 (-1)), z, z], [z, z, z, z, (i6 (-1)), z, z, z], [z, z, z, (i6 (-1)), z, z, z, z], [z, z, (i6 (-1)), z, z, z, z, z], [z, (i6 (-1)), z, z, z, z, z, z]]))]
def rh_90 : PV := (.tup [(.agg [tt, l1, ff, l1, o, z, z, z, z, z, z, z]), (.one tt)])
theorem mh_90 : (ER 60).pure 137 ah_90 = some rh_90 := isV_eq (by kernel_rfl)
def ah_91 : List PV := [(.one (.lst [[tt, l1, ff, l1, o, z, z, z, z, z, z, z]])), (.one (.lst [[o, o, o, o, o, o, o, o], [z, z, z, z, z, z, z, (i6 (-1))], [z, z, z, z, z, z, (i6 (-1)), z], [z, z, z, z, z, (i6 (-1)), z, z], [z, z, z, z, (i6 (-1)), z, z, z], [z, z, z, (i6 (-1)), z, z, z, z], [z, z, (i6 (-1)), z, z, z, z, z], [z, (i6 (-1)), z, z, z, z, z, z]]))]
def rh_91 : PV := (.tup [(.agg [tt, l1, ff, l1, o, z, z, z, z, z, z, z]), (.one tt)])
theorem mh_91 : (ER 60).pure 137 ah_91 = some rh_91 := isV_eq (by kernel_rfl)
def ah_92 : List PV := [(.one (.lst [[tt, l1, ff, l1, o, z, z, z, z, z, z, o], [ff, l1, ff, l1, z, z, z, z, z, z, z, z]])), (.one (.lst [[o, o, o, o, o, o, o, o], [z, z, z, z, z, z, z, (i6 (-1))], [z, z, z, z, z, z, (i6 (-1)), z], [z, z, z, z, z, (i6 (-1)), z, z], [z, z, z, z, (i6 (-1)), z, z, z], [z, z, z, (i6 (-1)), z, z, z, z], [z, z, (i6 (-1)), z, z, z, z, z], [z, (i6 (-1)), z, z, z, z, z, z]]))]
def rh_92 : PV := (.tup [(.agg [tt, l1, ff, l1, o, z, z, z, z, z, z, o]), (.one tt)])
theorem mh_92 : (ER 60).pure 137 ah_92 = some rh_92 := isV_eq (by kernel_rfl)
def ah_93 : List PV := [(.one (.lst [[tt, l1, ff, l1, o, z, z, z, z, z, z, o], [ff, l1, ff, l1, o, z, z, z, z, z, z, z]])), (.one (.lst [[o, o, o, o, o, o, o, o], [z, z, z, z, z, z, z, (i6 (-1))], [z, z, z, z, z, z, (i6 (-1)), z], [z, z, z, z, z, (i6 (-1)), z, z], [z, z, z, z, (i6 (-1)), z, z, z], [z, z, z, (i6 (-1)), z, z, z, z], [z, z, (i6 (-1)), z, z, z, z, z], [z, (i6 (-1)), z, z, z, z, z, z]]))]
def rh_93 : PV := (.tup [(.agg [tt, l1, ff, l1, o, z, z, z, z, z, z, o]), (.one tt)])
theorem mh_93 : (ER 60).pure 137 ah_93 = some rh_93 := isV_eq (by kernel_rfl)
def ah_94 : List PV := [(.one (.lst [[tt, l1, ff, l1, o, z, z, z, z, z, z, o], [tt, l1, ff, l1, z, z, z, z, z, z, z, o], [ff, l1, ff, l1, z, z, z, z, z, z, z, z]])), (.one (.lst [[o, o, o, o, o, o, o, o], [z, z, z, z, z, z, z, (i6 (-1))], [z, z, z, z, z, z, (i6 (-1)), z], [z, z, z, z, z, (i6 (-1)), z, z], [z, z, z, z, (i6 (-1)), z, z, z], [z, z, z, (i6 (-1)), z, z, z, z], [z, z, (i6 (-1)), z, z, z, z, z], [z, (i6 (-1)), z, z, z, z, z, z]]))]
def rh_94 : PV := (.tup [(.agg [tt, l1, ff, l1, o, z, z, z, z, z, z, o]), (.one tt)])
theorem mh_94 : (ER 60).pure 137 ah_94 = some rh_94 := isV_eq (by kernel_rfl)
def ah_95 : List PV := [(.one (.lst [[tt, l1, ff, l1, (i6 (2)), z, z, z, z, z, z, z], [ff, l1, ff, l1, o, z, z, z, z, z, z, z], [ff, l1, ff, l1, z, z, z, z, z, z, z, o], [tt, l1, ff, l1, z, z, z, z, z, z, z, z]])), (.one (.lst [[o, o, o, o, o, o, o, o], [z, z, z, z, z, z, z, (i6 (-1))], [z, z, z, z, z, z, (i6 (-1)), z], [z, z, z, z, z, (i6 (-1)), z, z], [z, z, z, z, (i6 (-1)), z, z, z], [z, z, z, (i6 (-1)), z, z, z, z], [z, z, (i6 (-1)), z, z, z, z, z], [z, (i6 (-1)), z, z, z, z, z, z]]))]
def rh_95 : PV := (.tup [(.agg [tt, l1, ff, l1, (i6 (2)), z, z, z, z, z, z, z]), (.one tt)])
theorem mh_95 : (ER 60).pure 137 ah_95 = some rh_95 := isV_eq (by kernel_rfl)
def ah_96 : List PV := [(.one (.lst [[tt, l1, ff, l1, (i6 (2)), z, z, z, z, z, z, z], [tt, l1, ff, l1, o, z, z, z, z, z, z, o], [ff, l1, ff, l1, o, z, z, z, z, z, z, z]])), (.one (.lst [[o, o, o, o, o, o, o, o], [z, z, z, z, z, z, z, (i6 (-1))], [z, z, z, z, z, z, (i6 (-1)), z], [z, z, z, z, z, (i6 (-1)), z, z], [z, z, z, z, (i6 (-1)), z, z, z], [z, z, z, (i6 (-1)), z, z, z, z], [z, z, (i6 (-1)), z, z, z, z, z], [z, (i6 (-1)), z, z, z, z, z, z]]))]
def rh_96 : PV := (.tup [(.agg [tt, l1, ff, l1, (i6 (2)), z, z, z, z, z, z, z]), (.one tt)])
theorem mh_96 : (ER 60).pure 137 ah_96 = some rh_96 := isV_eq (by kernel_rfl)
def ah_97 : List PV := [(.one (.lst [[tt, l1, ff, l1, (i6 (2)), z, z, z, z, z, z, z]])), (.one (.lst [[o, o, o, o, o, o, o, o], [z, z, z, z, z, z, z, (i6 (-1))], [z, z, z, z, z, z, (i6 (-1)), z], [z, z, z, z, z, (i6 (-1)), z, z], [z, z, z, z, (i6 (-1)), z, z, z], [z, z, z, (i6 (-1)), z, z, z, z], [z, z, (i6 (-1)), z, z, z, z, z], [z, (i6 (-1)), z, z, z, z, z, z]]))]
def rh_97 : PV := (.tup [(.agg [tt, l1, ff, l1, (i6 (2)), z, z, z, z, z, z, z]), (.one tt)])
theorem mh_97 : (ER 60).pure 137 ah_97 = some rh_97 := isV_eq (by kernel_rfl)
def ah_98 : List PV := [(.one (.lst [[tt, (.lst [[(.int .u32 (3))]]), ff, l1, z, z, z, z, z, z, z, o], [ff, (.lst [[(.int .u32 (2))]]), ff, l1, z, z, z, z, z, z, z, z]])), (.one (.lst [[o, o, o, o, o, o, o, o], [z, z, z, z, z, z, z, (i6 (-1))], [z, z, z, z, z, z, (i6 (-1)), z], [z, z, z, z, z, (i6 (-1)), z, z], [z, z, z, z, (i6 (-1)), z, z, z], [z, z, z, (i6 (-1)), z, z, z, z], [z, z, (i6 (-1)), z, z, z, z, z], [z, (i6 (-1)), z, z, z, z, z, z]]))]
def rh_98 : PV := (.tup [(.agg [tt, (.lst [[(.int .u32 (3))]]), ff, l1, z, z, z, z, z, z, z, o]), (.one tt)])
theorem mh_98 : (ER 60).pure 137 ah_98 = some rh_98 := isV_eq (by kernel_rfl)
def ah_99 : List PV := [(.one (.ref [(.lst [[o, o, o, o, o, o, o, o], [z, z, z, z, z, z, z, (i6 (-1))], [z, z, z, z, z, z, (i6 (-1)), z], [z, z, z, z, z, (i6 (-1)), z, z], [z, z, z, z, (i6 (-1)), z, z, z], [z, z, z, (i6 (-1)), z, z, z, z], [z, z, (i6 (-1)), z, z, z, z, z], [z, (i6 (-1)), z, z, z, z, z, z]]), (.lst []), (.lst [[(.lst [[ff, l1, ff, l1, (i6 (3)), z, z, z, z, z, z, z]])], [(.lst [[ff, l1, ff, l1, z, o, z, z, z, z, z, z]])], [(.lst [[tt, l1, ff, l1, o, z, z, z, z, z, z, o], [ff, l1, ff, l1, z, z, z, z, z, z, z, z]])]]), (.lst [[(.lst [[ff, l1, ff, l1, z, o, z, z, z, z, z, z]]), z, o, z, z, z, z, z, z, (.lst [[(.lst [])], [(.lst [[ff, l1, ff, l1, z, z, z, z, z, z, z, z]])], [(.lst [])]]), o, tt], [(.lst [[ff, l1, ff, l1, o, z, z, z, z, z, z, o], [tt, l1, ff, l1, z, z, z, z, z, z, z, z]]), o, z, z, z, z, z, z, o, (.lst [[(.lst [])], [(.lst [])], [(.lst [[tt, l1, ff, l1, z, z, z, z, z, z, z, z]])]]), (i6 (2)), tt], [(.lst [[ff, l1, ff, l1, (i6 (3)), z, z, z, z, z, z, z]]), (i6 (3)), z, z, z, z, z, z, z, (.lst [[(.lst [[ff, l1, ff, l1, z, z, z, z, z, z, z, z]])], [(.lst [])], [(.lst [])]]), (i6 (3)), tt], [(.lst [[ff, l1, ff, l1, (i6 (2)), z, z, z, z, z, z, z]]), (i6 (2)), z, z, z, z, z, z, z, (.lst [[(.lst [[ff, l1, ff, l1, z, z, z, z, z, z, z, o]])], [(.lst [])], [(.lst [[ff, l1, ff, l1, (i6 (2)), z, z, z, z, z, z, z]])]]), (i6 (4)), tt], [(.lst [[ff, l1, ff, l1, o, z, z, z, z, z, z, z]]), o, z, z, z, z, z, z, z, (.lst [[(.lst [[ff, l1, ff, l1, z, z, z, z, z, z, z, (i6 (2))]])], [(.lst [])], [(.lst [[ff, l1, ff, l1, (i6 (2)), z, z, z, z, z, z, o], [ff, l1, ff, l1, o, z, z, z, z, z, z, z]])]]), (i6 (5)), tt], [(.lst [[ff, l1, ff, l1, z, z, z, z, z, z, z, z]]), z, z, z, z, z, z, z, z, (.lst [[(.lst [[ff, l1, ff, l1, z, z, z, z, z, z, z, (i6 (3))]])], [(.lst [])], [(.lst [[ff, l1, ff, l1, (i6 (2)), z, z, z, z, z, z, (i6 (2))], [ff, l1, ff, l1, o, z, z, z, z, z, z, o], [ff, l1, ff, l1, z, z, z, z, z, z, z, z]])]]), (i6 (6)), ff]])]))]
def rh_99 : PV := (.tup [(.agg [(.lst [[o, o, o, o, o, o, o, o], [z, z, z, z, z, z, z, (i6 (-1))], [z, z, z, z, z, z, (i6 (-1)), z], [z, z, z, z, z, (i6 (-1)), z, z], [z, z, z, z, (i6 (-1)), z, z, z], [z, z, z, (i6 (-1)), z, z, z, z], [z, z, (i6 (-1)), z, z, z, z, z], [z, (i6 (-1)), z, z, z, z, z, z]]), (.lst [[(.lst [[ff, l1, ff, l1, z, z, z, z, z, z, z, z]])]]), (.lst [[(.lst [[(.lst [[ff, l1, ff, l1, z, z, z, z, z, z, z, (i6 (3))]])], [(.lst [])], [(.lst [[ff, l1, ff, l1, (i6 (2)), z, z, z, z, z, z, (i6 (2))], [ff, l1, ff, l1, o, z, z, z, z, z, z, o], [ff, l1, ff, l1, z, z, z, z, z, z, z, z]])]])]])]), (.one z)])
theorem mh_99 : (ER 60).pure 111 ah_99 = some rh_99 := isV_eq (by kernel_rfl)
def ah_100 : List PV := [(.one (.ref [(.lst [[o, o, o, o, o, o, o, o], [z, z, z, z, z, z, z, (i6 (-1))], [z, z, z, z, z, z, (i6 (-1)), z], [z, z, z, z, z, (i6 (-1)), z, z], [z, z, z, z, (i6 (-1)), z, z, z], [z, z, z, (i6 (-1)), z, z, z, z], [z, z, (i6 (-1)), z, z, z, z, z], [z, (i6 (-1)), z, z, z, z, z, z]]), (.lst []), (.lst [[(.lst [[ff, l1, ff, l1, (i6 (3)), z, z, z, z, z, z, z]])], [(.lst [[ff, l1, ff, l1, z, o, z, z, z, z, z, z]])], [(.lst [[tt, l1, ff, l1, o, z, z, z, z, z, z, o], [tt, l1, ff, l1, z, z, z, z, z, z, z, o], [ff, l1, ff, l1, z, z, z, z, z, z, z, z]])]]), (.lst [[(.lst [[ff, l1, ff, l1, z, o, z, z, z, z, z, z]]), z, o, z, z, z, z, z, z, (.lst [[(.lst [])], [(.lst [[ff, l1, ff, l1, z, z, z, z, z, z, z, z]])], [(.lst [])]]), o, ff], [(.lst [[ff, l1, ff, l1, o, z, z, z, z, z, z, o], [ff, l1, ff, l1, z, z, z, z, z, z, z, o], [tt, l1, ff, l1, z, z, z, z, z, z, z, z]]), o, z, z, z, z, z, z, o, (.lst [[(.lst [])], [(.lst [])], [(.lst [[tt, l1, ff, l1, z, z, z, z, z, z, z, z]])]]), (i6 (2)), ff], [(.lst [[ff, l1, ff, l1, (i6 (3)), z, z, z, z, z, z, z]]), (i6 (3)), z, z, z, z, z, z, z, (.lst [[(.lst [[ff, l1, ff, l1, z, z, z, z, z, z, z, z]])], [(.lst [])], [(.lst [])]]), (i6 (3)), tt], [(.lst [[ff, l1, ff, l1, (i6 (2)), z, z, z, z, z, z, z], [tt, l1, ff, l1, o, z, z, z, z, z, z, z], [tt, l1, ff, l1, z, z, z, z, z, z, z, o], [ff, l1, ff, l1, z, z, z, z, z, z, z, z]]), (i6 (2)), z, z, z, z, z, z, z, (.lst [[(.lst [[ff, l1, ff, l1, z, z, z, z, z, z, z, o]])], [(.lst [])], [(.lst [[ff, l1, ff, l1, (i6 (2)), z, z, z, z, z, z, z], [tt, l1, ff, l1, o, z, z, z, z, z, z, z], [ff, l1, ff, l1, z, z, z, z, z, z, z, z]])]]), (i6 (4)), ff], [(.lst [[tt, l1, ff, l1, o, z, z, z, z, z, z, z], [ff, l1, ff, l1, z, z, z, z, z, z, z, (i6 (2))], [tt, (.lst [[(.int .u32 (3))]]), ff, l1, z, z, z, z, z, z, z, o], [ff, (.lst [[(.int .u32 (2))]]), ff, l1, z, z, z, z, z, z, z, z]]), z, z, z, z, z, z, z, (i6 (2)), (.lst [[(.lst [[tt, l1, ff, l1, z, z, z, z, z, z, z, (i6 (2))]])], [(.lst [])], [(.lst [[tt, l1, ff, l1, (i6 (2)), z, z, z, z, z, z, o], [ff, l1, ff, l1, o, z, z, z, z, z, z, o], [tt, l1, ff, l1, o, z, z, z, z, z, z, z], [tt, l1, ff, l1, z, z, z, z, z, z, z, o], [ff, (.lst [[(.int .u32 (2))]]), ff, l1, z, z, z, z, z, z, z, z]])]]), (i6 (5)), ff]])]))]
def rh_100 : PV := (.tup [(.agg [(.lst [[o, o, o, o, o, o, o, o], [z, z, z, z, z, z, z, (i6 (-1))], [z, z, z, z, z, z, (i6 (-1)), z], [z, z, z, z, z, (i6 (-1)), z, z], [z, z, z, z, (i6 (-1)), z, z, z], [z, z, z, (i6 (-1)), z, z, z, z], [z, z, (i6 (-1)), z, z, z, z, z], [z, (i6 (-1)), z, z, z, z, z, z]]), (.lst [[(.lst [[ff, l1, ff, l1, z, o, z, z, z, z, z, z]])], [(.lst [[tt, l1, ff, l1, o, z, z, z, z, z, z, z], [ff, l1, ff, l1, z, z, z, z, z, z, z, (i6 (2))], [tt, (.lst [[(.int .u32 (3))]]), ff, l1, z, z, z, z, z, z, z, o], [ff, (.lst [[(.int .u32 (2))]]), ff, l1, z, z, z, z, z, z, z, z]])], [(.lst [[ff, l1, ff, l1, o, z, z, z, z, z, z, o], [ff, l1, ff, l1, z, z, z, z, z, z, z, o], [tt, l1, ff, l1, z, z, z, z, z, z, z, z]])], [(.lst [[ff, l1, ff, l1, (i6 (2)), z, z, z, z, z, z, z], [tt, l1, ff, l1, o, z, z, z, z, z, z, z], [tt, l1, ff, l1, z, z, z, z, z, z, z, o], [ff, l1, ff, l1, z, z, z, z, z, z, z, z]])]]), (.lst [[(.lst [[(.lst [])], [(.lst [[ff, l1, ff, l1, z, z, z, z, z, z, z, z]])], [(.lst [])]])], [(.lst [[(.lst [[tt, l1, ff, l1, z, z, z, z, z, z, z, (i6 (2))]])], [(.lst [])], [(.lst [[tt, l1, ff, l1, (i6 (2)), z, z, z, z, z, z, o], [ff, l1, ff, l1, o, z, z, z, z, z, z, o], [tt, l1, ff, l1, o, z, z, z, z, z, z, z], [tt, l1, ff, l1, z, z, z, z, z, z, z, o], [ff, (.lst [[(.int .u32 (2))]]), ff, l1, z, z, z, z, z, z, z, z]])]])], [(.lst [[(.lst [])], [(.lst [])], [(.lst [[tt, l1, ff, l1, z, z, z, z, z, z, z, z]])]])], [(.lst [[(.lst [[ff, l1, ff, l1, z, z, z, z, z, z, z, o]])], [(.lst [])], [(.lst [[ff, l1, ff, l1, (i6 (2)), z, z, z, z, z, z, z], [tt, l1, ff, l1, o, z, z, z, z, z, z, z], [ff, l1, ff, l1, z, z, z, z, z, z, z, z]])]])]])]), (.one z)])
theorem mh_100 : (ER 60).pure 111 ah_100 = some rh_100 := isV_eq (by kernel_rfl)
def ah_101 : List PV := [(.one (.lst [[ff, l1, ff, l1, z, z, z, z, z, z, z, z]])), (.one (.lst [[ff, l1, ff, l1, z, z, z, z, z, z, z, z]]))]
def rh_101 : PV := (.one (.lst []))
theorem mh_101 : (ER 60).pure 40 ah_101 = some rh_101 := isV_eq (by kernel_rfl)
def ah_102 : List PV := [(.one (.lst [[ff, l1, ff, l1, z, z, z, z, z, z, z, o], [tt, l1, ff, l1, z, z, z, z, z, z, z, z]])), (.one (.lst [[ff, l1, ff, l1, z, z, z, z, z, z, z, o]]))]
def rh_102 : PV := (.one (.lst [[tt, l1, ff, l1, z, z, z, z, z, z, z, z]]))
theorem mh_102 : (ER 60).pure 40 ah_102 = some rh_102 := isV_eq (by kernel_rfl)
def ah_103 : List PV := [(.one (.lst [[ff, l1, ff, l1, z, o, z, z, z, z, z, z]])), (.one (.lst [[ff, l1, ff, l1, z, o, z, z, z, z, z, z]]))]
def rh_103 : PV := (.one (.lst []))
theorem mh_103 : (ER 60).pure 40 ah_103 = some rh_103 := isV_eq (by kernel_rfl)
def ah_104 : List PV := [(.one (.lst [[ff, l1, ff, l1, o, z, z, z, z, z, z, z], [ff, l1, ff, l1, z, z, z, z, z, z, z, o], [tt, l1, ff, l1, z, z, z, z, z, z, z, z]])), (.one (.lst [[ff, l1, ff, l1, o, z, z, z, z, z, z, z]]))]
def rh_104 : PV := (.one (.lst [[ff, l1, ff, l1, z, z, z, z, z, z, z, o], [tt, l1, ff, l1, z, z, z, z, z, z, z, z]]))
theorem mh_104 : (ER 60).pure 40 ah_104 = some rh_104 := isV_eq (by kernel_rfl)
def ah_105 : List PV := [(.one (.lst [[ff, l1, ff, l1, o, z, z, z, z, z, z, o], [ff, l1, ff, l1, z, z, z, z, z, z, z, o], [tt, l1, ff, l1, z, z, z, z, z, z, z, z]])), (.one (.lst [[ff, l1, ff, l1, o, z, z, z, z, z, z, o], [ff, l1, ff, l1, z, z, z, z, z, z, z, o], [tt, l1, ff, l1, z, z, z, z, z, z, z, z]]))]
def rh_105 : PV := (.one (.lst []))
theorem mh_105 : (ER 60).pure 40 ah_105 = some rh_105 := isV_eq (by kernel_rfl)
def ah_106 : List PV := [(.one (.lst [[ff, l1, ff, l1, o, z, z, z, z, z, z, o], [ff, l1, ff, l1, z, z, z, z, z, z, z, o], [tt, l1, ff, l1, z, z, z, z, z, z, z, z]])), (.one (.lst [[ff, l1, ff, l1, o, z, z, z, z, z, z, o]]))]
def rh_106 : PV := (.one (.lst [[ff, l1, ff, l1, z, z, z, z, z, z, z, o], [tt, l1, ff, l1, z, z, z, z, z, z, z, z]]))
theorem mh_106 : (ER 60).pure 40 ah_106 = some rh_106 := isV_eq (by kernel_rfl)
def ah_107 : List PV := [(.one (.lst [[ff, l1, ff, l1, o, z, z, z, z, z, z, o], [tt, l1, ff, l1, z, z, z, z, z, z, z, z]])), (.one (.lst [[ff, l1, ff, l1, o, z, z, z, z, z, z, o]]))]
def rh_107 : PV := (.one (.lst [[tt, l1, ff, l1, z, z, z, z, z, z, z, z]]))
theorem mh_107 : (ER 60).pure 40 ah_107 = some rh_107 := isV_eq (by kernel_rfl)
def ah_108 : List PV := [(.one (.lst [[ff, l1, ff, l1, o, z, z, z, z, z, z, (i6 (2))], [ff, l1, ff, l1, z, z, z, z, z, z, z, (i6 (2))], [tt, l1, ff, l1, z, z, z, z, z, z, z, o]])), (.one (.lst [[tt, l1, ff, l1, (i6 (2)), z, z, z, z, z, z, z], [ff, l1, ff, l1, o, z, z, z, z, z, z, (i6 (2))], [tt, (.lst [[(.int .u32 (3))]]), ff, l1, o, z, z, z, z, z, z, o], [ff, (.lst [[(.int .u32 (2))]]), ff, l1, o, z, z, z, z, z, z, z]]))]
def rh_108 : PV := (.one (.lst [[ff, l1, ff, l1, (i6 (2)), z, z, z, z, z, z, z], [ff, (.lst [[(.int .u32 (3))]]), ff, l1, o, z, z, z, z, z, z, o], [tt, (.lst [[(.int .u32 (2))]]), ff, l1, o, z, z, z, z, z, z, z], [ff, l1, ff, l1, z, z, z, z, z, z, z, (i6 (2))], [tt, l1, ff, l1, z, z, z, z, z, z, z, o]]))
theorem mh_108 : (ER 60).pure 40 ah_108 = some rh_108 := isV_eq (by kernel_rfl)
def ah_109 : List PV := [(.one (.lst [[ff, l1, ff, l1, (i6 (2)), z, z, z, z, z, z, z], [ff, l1, ff, l1, o, z, z, z, z, z, z, o], [tt, l1, ff, l1, o, z, z, z, z, z, z, z]])), (.one (.lst [[ff, l1, ff, l1, (i6 (2)), z, z, z, z, z, z, z], [tt, l1, ff, l1, o, z, z, z, z, z, z, z], [tt, l1, ff, l1, z, z, z, z, z, z, z, o], [ff, l1, ff, l1, z, z, z, z, z, z, z, z]]))]
def rh_109 : PV := (.one (.lst [[ff, l1, ff, l1, o, z, z, z, z, z, z, o], [ff, l1, ff, l1, z, z, z, z, z, z, z, o], [tt, l1, ff, l1, z, z, z, z, z, z, z, z]]))
theorem mh_109 : (ER 60).pure 40 ah_109 = some rh_109 := isV_eq (by kernel_rfl)
def ah_110 : List PV := [(.one (.lst [[ff, l1, ff, l1, (i6 (2)), z, z, z, z, z, z, z], [ff, (.lst [[(.int .u32 (3))]]), ff, l1, o, z, z, z, z, z, z, o], [tt, (.lst [[(.int .u32 (2))]]), ff, l1, o, z, z, z, z, z, z, z], [ff, l1, ff, l1, z, z, z, z, z, z, z, (i6 (2))], [tt, l1, ff, l1, z, z, z, z, z, z, z, o]])), (.one (.lst [[ff, l1, ff, l1, (i6 (2)), z, z, z, z, z, z, z], [tt, l1, ff, l1, o, z, z, z, z, z, z, z], [tt, l1, ff, l1, z, z, z, z, z, z, z, o], [ff, l1, ff, l1, z, z, z, z, z, z, z, z]]))]
def rh_110 : PV := (.one (.lst [[ff, (.lst [[(.int .u32 (3))]]), ff, l1, o, z, z, z, z, z, z, o], [tt, l1, ff, l1, o, z, z, z, z, z, z, z], [ff, l1, ff, l1, z, z, z, z, z, z, z, (i6 (2))], [tt, l1, ff, l1, z, z, z, z, z, z, z, z]]))
theorem mh_110 : (ER 60).pure 40 ah_110 = some rh_110 := isV_eq (by kernel_rfl)
def ah_111 : List PV := [(.one (.lst [[ff, l1, ff, l1, (i6 (2)), z, z, z, z, z, z, z], [tt, l1, ff, l1, o, z, z, z, z, z, z, z], [tt, l1, ff, l1, z, z, z, z, z, z, z, o], [ff, l1, ff, l1, z, z, z, z, z, z, z, z]])), (.one (.lst [[ff, l1, ff, l1, (i6 (2)), z, z, z, z, z, z, z]]))]
def rh_111 : PV := (.one (.lst [[tt, l1, ff, l1, o, z, z, z, z, z, z, z], [tt, l1, ff, l1, z, z, z, z, z, z, z, o], [ff, l1, ff, l1, z, z, z, z, z, z, z, z]]))
theorem mh_111 : (ER 60).pure 40 ah_111 = some rh_111 := isV_eq (by kernel_rfl)
def ah_112 : List PV := [(.one (.lst [[ff, l1, ff, l1, (i6 (2)), z, z, z, z, z, z, z]])), (.one (.lst [[ff, l1, ff, l1, (i6 (2)), z, z, z, z, z, z, z]]))]
def rh_112 : PV := (.one (.lst []))
theorem mh_112 : (ER 60).pure 40 ah_112 = some rh_112 := isV_eq (by kernel_rfl)
def ah_113 : List PV := [(.one (.lst [[ff, l1, ff, l1, (i6 (2)), z, z, z, z, z, z, o], [ff, l1, ff, l1, o, z, z, z, z, z, z, o], [tt, l1, ff, l1, o, z, z, z, z, z, z, z]])), (.one (.lst [[ff, l1, ff, l1, (i6 (2)), z, z, z, z, z, z, o], [tt, l1, ff, l1, o, z, z, z, z, z, z, o], [tt, l1, ff, l1, z, z, z, z, z, z, z, (i6 (2))], [ff, l1, ff, l1, z, z, z, z, z, z, z, o]]))]
def rh_113 : PV := (.one (.lst [[ff, (.lst [[(.int .u32 (2))]]), ff, l1, o, z, z, z, z, z, z, o], [tt, l1, ff, l1, o, z, z, z, z, z, z, z], [ff, l1, ff, l1, z, z, z, z, z, z, z, (i6 (2))], [tt, l1, ff, l1, z, z, z, z, z, z, z, o]]))
theorem mh_113 : (ER 60).pure 40 ah_113 = some rh_113 := isV_eq (by kernel_rfl)
def ah_114 : List PV := [(.one (.lst [[ff, l1, ff, l1, (i6 (2)), z, z, z, z, z, z, o], [tt, l1, ff, l1, o, z, z, z, z, z, z, z]])), (.one (.lst [[ff, l1, ff, l1, (i6 (2)), z, z, z, z, z, z, o]]))]
def rh_114 : PV := (.one (.lst [[tt, l1, ff, l1, o, z, z, z, z, z, z, z]]))
theorem mh_114 : (ER 60).pure 40 ah_114 = some rh_114 := isV_eq (by kernel_rfl)
def ah_115 : List PV := [(.one (.lst [[ff, l1, ff, l1, (i6 (2)), z, z, z, z, z, z, o], [tt, l1, ff, l1, (i6 (2)), z, z, z, z, z, z, z]])), (.one (.lst [[ff, l1, ff, l1, (i6 (2)), z, z, z, z, z, z, o], [ff, l1, ff, l1, o, z, z, z, z, z, z, o], [tt, l1, ff, l1, o, z, z, z, z, z, z, z]]))]
def rh_115 : PV := (.one (.lst [[tt, l1, ff, l1, (i6 (2)), z, z, z, z, z, z, z], [tt, l1, ff, l1, o, z, z, z, z, z, z, o], [ff, l1, ff, l1, o, z, z, z, z, z, z, z]]))
theorem mh_115 : (ER 60).pure 40 ah_115 = some rh_115 := isV_eq (by kernel_rfl)
def ah_116 : List PV := [(.one (.lst [[ff, l1, ff, l1, (i6 (3)), z, z, z, z, z, z, z]])), (.one (.lst [[ff, l1, ff, l1, (i6 (3)), z, z, z, z, z, z, z], [tt, l1, ff, l1, (i6 (2)), z, z, z, z, z, z, z], [tt, l1, ff, l1, o, z, z, z, z, z, z, o], [ff, l1, ff, l1, o, z, z, z, z, z, z, z]]))]
def rh_116 : PV := (.one (.lst [[ff, l1, ff, l1, (i6 (2)), z, z, z, z, z, z, z], [ff, l1, ff, l1, o, z, z, z, z, z, z, o], [tt, l1, ff, l1, o, z, z, z, z, z, z, z]]))
theorem mh_116 : (ER 60).pure 40 ah_116 = some rh_116 := isV_eq (by kernel_rfl)
def ah_117 : List PV := [(.one (.lst [[ff, l1, ff, l1, (i6 (3)), z, z, z, z, z, z, z]])), (.one (.lst [[ff, l1, ff, l1, (i6 (3)), z, z, z, z, z, z, z]]))]
def rh_117 : PV := (.one (.lst []))
theorem mh_117 : (ER 60).pure 40 ah_117 = some rh_117 := isV_eq (by kernel_rfl)
def ah_118 : List PV := [(.one (.lst [[ff, l1, ff, l1, (i6 (3)), z, z, z, z, z, z, o], [ff, l1, ff, l1, (i6 (2)), z, z, z, z, z, z, o], [tt, l1, ff, l1, (i6 (2)), z, z, z, z, z, z, z]])), (.one (.lst [[ff, l1, ff, l1, (i6 (3)), z, z, z, z, z, z, o]]))]
def rh_118 : PV := (.one (.lst [[ff, l1, ff, l1, (i6 (2)), z, z, z, z, z, z, o], [tt, l1, ff, l1, (i6 (2)), z, z, z, z, z, z, z]]))
theorem mh_118 : (ER 60).pure 40 ah_118 = some rh_118 := isV_eq (by kernel_rfl)
def ah_119 : List PV := [(.one (.lst [[ff, l1, ff, l1, (i6 (3)), z, z, z, z, z, z, o], [tt, l1, ff, l1, (i6 (2)), z, z, z, z, z, z, z]])), (.one (.lst [[ff, l1, ff, l1, (i6 (3)), z, z, z, z, z, z, o]]))]
def rh_119 : PV := (.one (.lst [[tt, l1, ff, l1, (i6 (2)), z, z, z, z, z, z, z]]))
theorem mh_119 : (ER 60).pure 40 ah_119 = some rh_119 := isV_eq (by kernel_rfl)
def ah_120 : List PV := [(.one (.lst [[ff, (.lst [[(.int .u32 (2))]]), ff, l1, z, z, z, z, z, z, z, z]])), (.one (.lst [[ff, (.lst [[(.int .u32 (2))]]), ff, l1, z, z, z, z, z, z, z, z]]))]
def rh_120 : PV := (.one (.lst []))
theorem mh_120 : (ER 60).pure 40 ah_120 = some rh_120 := isV_eq (by kernel_rfl)
def ah_121 : List PV := [(.one (.lst [[ff, (.lst [[(.int .u32 (2))]]), ff, l1, o, z, z, z, z, z, z, o], [tt, l1, ff, l1, o, z, z, z, z, z, z, z], [ff, l1, ff, l1, z, z, z, z, z, z, z, (i6 (2))], [tt, l1, ff, l1, z, z, z, z, z, z, z, o]])), (.one (.lst [[ff, (.lst [[(.int .u32 (2))]]), ff, l1, o, z, z, z, z, z, z, o], [ff, (.lst [[(.int .u32 (2))]]), ff, l1, z, z, z, z, z, z, z, o], [tt, (.lst [[(.int .u32 (2))]]), ff, l1, z, z, z, z, z, z, z, z]]))]
def rh_121 : PV := (.one (.lst [[tt, l1, ff, l1, o, z, z, z, z, z, z, z], [ff, l1, ff, l1, z, z, z, z, z, z, z, (i6 (2))], [tt, (.lst [[(.int .u32 (3))]]), ff, l1, z, z, z, z, z, z, z, o], [ff, (.lst [[(.int .u32 (2))]]), ff, l1, z, z, z, z, z, z, z, z]]))
theorem mh_121 : (ER 60).pure 40 ah_121 = some rh_121 := isV_eq (by kernel_rfl)
def ah_122 : List PV := [(.one (.lst [[ff, (.lst [[(.int .u32 (3))]]), ff, l1, o, z, z, z, z, z, z, o], [tt, l1, ff, l1, o, z, z, z, z, z, z, z], [ff, l1, ff, l1, z, z, z, z, z, z, z, (i6 (2))], [tt, l1, ff, l1, z, z, z, z, z, z, z, z]])), (.one (.lst [[ff, (.lst [[(.int .u32 (3))]]), ff, l1, o, z, z, z, z, z, z, o], [ff, (.lst [[(.int .u32 (3))]]), ff, l1, z, z, z, z, z, z, z, o], [tt, (.lst [[(.int .u32 (3))]]), ff, l1, z, z, z, z, z, z, z, z]]))]
def rh_122 : PV := (.one (.lst [[tt, l1, ff, l1, o, z, z, z, z, z, z, z], [ff, l1, ff, l1, z, z, z, z, z, z, z, (i6 (2))], [tt, (.lst [[(.int .u32 (3))]]), ff, l1, z, z, z, z, z, z, z, o], [ff, (.lst [[(.int .u32 (2))]]), ff, l1, z, z, z, z, z, z, z, z]]))
theorem mh_122 : (ER 60).pure 40 ah_122 = some rh_122 := isV_eq (by kernel_rfl)
def ah_123 : List PV := [(.one (.lst [[tt, l1, ff, l1, z, z, z, z, z, z, z, z]])), (.one (.lst [[ff, l1, ff, l1, (i6 (2)), z, z, z, z, z, z, (i6 (2))], [ff, l1, ff, l1, o, z, z, z, z, z, z, o]]))]
def rh_123 : PV := (.one (.lst [[tt, l1, ff, l1, (i6 (2)), z, z, z, z, z, z, (i6 (2))], [tt, l1, ff, l1, o, z, z, z, z, z, z, o], [tt, l1, ff, l1, z, z, z, z, z, z, z, z]]))
theorem mh_123 : (ER 60).pure 40 ah_123 = some rh_123 := isV_eq (by kernel_rfl)
def ah_124 : List PV := [(.one (.lst [[tt, l1, ff, l1, z, z, z, z, z, z, z, z]])), (.one (.lst [[tt, l1, ff, l1, z, z, z, z, z, z, z, z]]))]
def rh_124 : PV := (.one (.lst []))
theorem mh_124 : (ER 60).pure 40 ah_124 = some rh_124 := isV_eq (by kernel_rfl)
def ah_125 : List PV := [(.one (.lst [[tt, l1, ff, l1, z, z, z, z, z, z, z, o], [ff, l1, ff, l1, z, z, z, z, z, z, z, z]])), (.one (.lst [[tt, l1, ff, l1, z, z, z, z, z, z, z, o]]))]
def rh_125 : PV := (.one (.lst [[ff, l1, ff, l1, z, z, z, z, z, z, z, z]]))
theorem mh_125 : (ER 60).pure 40 ah_125 = some rh_125 := isV_eq (by kernel_rfl)
def ah_126 : List PV := [(.one (.lst [[tt, l1, ff, l1, z, z, z, z, z, z, z, o]])), (.one (.lst []))]
def rh_126 : PV := (.one (.lst [[tt, l1, ff, l1, z, z, z, z, z, z, z, o]]))
theorem mh_126 : (ER 60).pure 40 ah_126 = some rh_126 := isV_eq (by kernel_rfl)
def ah_127 : List PV := [(.one (.lst [[tt, l1, ff, l1, z, z, z, z, z, z, z, (i6 (2))]])), (.one (.lst []))]
def rh_127 : PV := (.one (.lst [[tt, l1, ff, l1, z, z, z, z, z, z, z, (i6 (2))]]))
theorem mh_127 : (ER 60).pure 40 ah_127 = some rh_127 := isV_eq (by kernel_rfl)
def ah_128 : List PV := [(.one (.lst [[tt, l1, ff, l1, o, z, z, z, z, z, z, z], [ff, l1, ff, l1, z, z, z, z, z, z, z, (i6 (2))], [tt, (.lst [[(.int .u32 (3))]]), ff, l1, z, z, z, z, z, z, z, o], [ff, (.lst [[(.int .u32 (2))]]), ff, l1, z, z, z, z, z, z, z, z]])), (.one (.lst [[ff, l1, ff, l1, z, z, z, z, z, z, z, (i6 (2))]]))]
def rh_128 : PV := (.one (.lst [[tt, l1, ff, l1, o, z, z, z, z, z, z, z], [tt, (.lst [[(.int .u32 (3))]]), ff, l1, z, z, z, z, z, z, z, o], [ff, (.lst [[(.int .u32 (2))]]), ff, l1, z, z, z, z, z, z, z, z]]))
theorem mh_128 : (ER 60).pure 40 ah_128 = some rh_128 := isV_eq (by kernel_rfl)
def ah_129 : List PV := [(.one (.lst [[tt, l1, ff, l1, o, z, z, z, z, z, z, z], [ff, l1, ff, l1, z, z, z, z, z, z, z, (i6 (2))], [tt, (.lst [[(.int .u32 (3))]]), ff, l1, z, z, z, z, z, z, z, o], [ff, (.lst [[(.int .u32 (2))]]), ff, l1, z, z, z, z, z, z, z, z]])), (.one (.lst [[tt, l1, ff, l1, o, z, z, z, z, z, z, z], [ff, l1, ff, l1, z, z, z, z, z, z, z, (i6 (2))], [tt, (.lst [[(.int .u32 (3))]]), ff, l1, z, z, z, z, z, z, z, o], [ff, (.lst [[(.int .u32 (2))]]), ff, l1, z, z, z, z, z, z, z, z]]))]
def rh_129 : PV := (.one (.lst []))
theorem mh_129 : (ER 60).pure 40 ah_129 = some rh_129 := isV_eq (by kernel_rfl)
def ah_130 : List PV := [(.one (.lst [[tt, l1, ff, l1, o, z, z, z, z, z, z, z], [tt, l1, ff, l1, z, z, z, z, z, z, z, o], [ff, l1, ff, l1, z, z, z, z, z, z, z, z]])), (.one (.lst [[tt, l1, ff, l1, o, z, z, z, z, z, z, z]]))]
def rh_130 : PV := (.one (.lst [[tt, l1, ff, l1, z, z, z, z, z, z, z, o], [ff, l1, ff, l1, z, z, z, z, z, z, z, z]]))
theorem mh_130 : (ER 60).pure 40 ah_130 = some rh_130 := isV_eq (by kernel_rfl)
def ah_131 : List PV := [(.one (.lst [[tt, l1, ff, l1, o, z, z, z, z, z, z, z], [tt, (.lst [[(.int .u32 (3))]]), ff, l1, z, z, z, z, z, z, z, o], [ff, (.lst [[(.int .u32 (2))]]), ff, l1, z, z, z, z, z, z, z, z]])), (.one (.lst [[tt, l1, ff, l1, o, z, z, z, z, z, z, z]]))]
def rh_131 : PV := (.one (.lst [[tt, (.lst [[(.int .u32 (3))]]), ff, l1, z, z, z, z, z, z, z, o], [ff, (.lst [[(.int .u32 (2))]]), ff, l1, z, z, z, z, z, z, z, z]]))
theorem mh_131 : (ER 60).pure 40 ah_131 = some rh_131 := isV_eq (by kernel_rfl)
def ah_132 : List PV := [(.one (.lst [[tt, l1, ff, l1, o, z, z, z, z, z, z, z]])), (.one (.lst [[ff, l1, ff, l1, (i6 (2)), z, z, z, z, z, z, o], [tt, l1, ff, l1, o, z, z, z, z, z, z, o], [ff, l1, ff, l1, z, z, z, z, z, z, z, o]]))]
def rh_132 : PV := (.one (.lst [[tt, l1, ff, l1, (i6 (2)), z, z, z, z, z, z, o], [ff, l1, ff, l1, o, z, z, z, z, z, z, o], [tt, l1, ff, l1, o, z, z, z, z, z, z, z], [tt, l1, ff, l1, z, z, z, z, z, z, z, o]]))
theorem mh_132 : (ER 60).pure 40 ah_132 = some rh_132 := isV_eq (by kernel_rfl)
def ah_133 : List PV := [(.one (.lst [[tt, l1, ff, l1, o, z, z, z, z, z, z, z]])), (.one (.lst [[ff, l1, ff, l1, (i6 (2)), z, z, z, z, z, z, o]]))]
def rh_133 : PV := (.one (.lst [[tt, l1, ff, l1, (i6 (2)), z, z, z, z, z, z, o], [tt, l1, ff, l1, o, z, z, z, z, z, z, z]]))
theorem mh_133 : (ER 60).pure 40 ah_133 = some rh_133 := isV_eq (by kernel_rfl)
def ah_134 : List PV := [(.one (.lst [[tt, l1, ff, l1, o, z, z, z, z, z, z, z]])), (.one (.lst [[tt, l1, ff, l1, o, z, z, z, z, z, z, z]]))]
def rh_134 : PV := (.one (.lst []))
theorem mh_134 : (ER 60).pure 40 ah_134 = some rh_134 := isV_eq (by kernel_rfl)
def ah_135 : List PV := [(.one (.lst [[tt, l1, ff, l1, o, z, z, z, z, z, z, o], [ff, l1, ff, l1, z, z, z, z, z, z, z, z]])), (.one (.lst [[tt, l1, ff, l1, o, z, z, z, z, z, z, o]]))]
def rh_135 : PV := (.one (.lst [[ff, l1, ff, l1, z, z, z, z, z, z, z, z]]))
theorem mh_135 : (ER 60).pure 40 ah_135 = some rh_135 := isV_eq (by kernel_rfl)
def ah_136 : List PV := [(.one (.lst [[tt, l1, ff, l1, o, z, z, z, z, z, z, o], [ff, l1, ff, l1, o, z, z, z, z, z, z, z]])), (.one (.lst [[tt, l1, ff, l1, o, z, z, z, z, z, z, o], [tt, l1, ff, l1, z, z, z, z, z, z, z, o], [ff, l1, ff, l1, z, z, z, z, z, z, z, z]]))]
def rh_136 : PV := (.one (.lst [[ff, l1, ff, l1, o, z, z, z, z, z, z, z], [ff, l1, ff, l1, z, z, z, z, z, z, z, o], [tt, l1, ff, l1, z, z, z, z, z, z, z, z]]))
theorem mh_136 : (ER 60).pure 40 ah_136 = some rh_136 := isV_eq (by kernel_rfl)
def ah_137 : List PV := [(.one (.lst [[tt, l1, ff, l1, o, z, z, z, z, z, z, o], [tt, l1, ff, l1, z, z, z, z, z, z, z, o], [ff, l1, ff, l1, z, z, z, z, z, z, z, z]])), (.one (.lst [[tt, l1, ff, l1, o, z, z, z, z, z, z, o]]))]
def rh_137 : PV := (.one (.lst [[tt, l1, ff, l1, z, z, z, z, z, z, z, o], [ff, l1, ff, l1, z, z, z, z, z, z, z, z]]))
theorem mh_137 : (ER 60).pure 40 ah_137 = some rh_137 := isV_eq (by kernel_rfl)
def ah_138 : List PV := [(.one (.lst [[tt, l1, ff, l1, (i6 (2)), z, z, z, z, z, z, z], [tt, l1, ff, l1, o, z, z, z, z, z, z, o], [ff, l1, ff, l1, o, z, z, z, z, z, z, z]])), (.one (.lst [[tt, l1, ff, l1, (i6 (2)), z, z, z, z, z, z, z]]))]
def rh_138 : PV := (.one (.lst [[tt, l1, ff, l1, o, z, z, z, z, z, z, o], [ff, l1, ff, l1, o, z, z, z, z, z, z, z]]))
theorem mh_138 : (ER 60).pure 40 ah_138 = some rh_138 := isV_eq (by kernel_rfl)
def ah_139 : List PV := [(.one (.lst [[tt, l1, ff, l1, (i6 (2)), z, z, z, z, z, z, z]])), (.one (.lst [[tt, l1, ff, l1, o, z, z, z, z, z, z, z], [ff, l1, ff, l1, z, z, z, z, z, z, z, z]]))]
def rh_139 : PV := (.one (.lst [[tt, l1, ff, l1, (i6 (2)), z, z, z, z, z, z, z], [ff, l1, ff, l1, o, z, z, z, z, z, z, z], [tt, l1, ff, l1, z, z, z, z, z, z, z, z]]))
theorem mh_139 : (ER 60).pure 40 ah_139 = some rh_139 := isV_eq (by kernel_rfl)
def ah_140 : List PV := [(.one (.lst [[tt, l1, ff, l1, (i6 (2)), z, z, z, z, z, z, z]])), (.one (.lst [[tt, l1, ff, l1, (i6 (2)), z, z, z, z, z, z, z]]))]
def rh_140 : PV := (.one (.lst []))
theorem mh_140 : (ER 60).pure 40 ah_140 = some rh_140 := isV_eq (by kernel_rfl)
def ah_141 : List PV := [(.one (.lst [[tt, l1, ff, l1, (i6 (2)), z, z, z, z, z, z, z]])), (.one (.lst []))]
def rh_141 : PV := (.one (.lst [[tt, l1, ff, l1, (i6 (2)), z, z, z, z, z, z, z]]))
theorem mh_141 : (ER 60).pure 40 ah_141 = some rh_141 := isV_eq (by kernel_rfl)
def ah_142 : List PV := [(.one (.lst [[tt, l1, ff, l1, (i6 (2)), z, z, z, z, z, z, o], [ff, l1, ff, l1, o, z, z, z, z, z, z, o], [tt, l1, ff, l1, o, z, z, z, z, z, z, z], [tt, l1, ff, l1, z, z, z, z, z, z, z, o]])), (.one (.lst [[tt, (.lst [[(.int .u32 (2))]]), ff, l1, z, z, z, z, z, z, z, z]]))]
def rh_142 : PV := (.one (.lst [[tt, l1, ff, l1, (i6 (2)), z, z, z, z, z, z, o], [ff, l1, ff, l1, o, z, z, z, z, z, z, o], [tt, l1, ff, l1, o, z, z, z, z, z, z, z], [tt, l1, ff, l1, z, z, z, z, z, z, z, o], [ff, (.lst [[(.int .u32 (2))]]), ff, l1, z, z, z, z, z, z, z, z]]))
theorem mh_142 : (ER 60).pure 40 ah_142 = some rh_142 := isV_eq (by kernel_rfl)
def ah_143 : List PV := [(.one (.lst [[tt, (.lst [[(.int .u32 (3))]]), ff, l1, z, z, z, z, z, z, z, o], [ff, (.lst [[(.int .u32 (2))]]), ff, l1, z, z, z, z, z, z, z, z]])), (.one (.lst [[tt, (.lst [[(.int .u32 (3))]]), ff, l1, z, z, z, z, z, z, z, o]]))]
def rh_143 : PV := (.one (.lst [[ff, (.lst [[(.int .u32 (2))]]), ff, l1, z, z, z, z, z, z, z, z]]))
theorem mh_143 : (ER 60).pure 40 ah_143 = some rh_143 := isV_eq (by kernel_rfl)
def ah_144 : List PV := [(.one (.lst [])), (.one (.lst [[ff, l1, ff, l1, z, z, z, z, z, z, z, o]]))]
def rh_144 : PV := (.one (.lst [[tt, l1, ff, l1, z, z, z, z, z, z, z, o]]))
theorem mh_144 : (ER 60).pure 40 ah_144 = some rh_144 := isV_eq (by kernel_rfl)
def ah_145 : List PV := [(.one (.lst [])), (.one (.lst [[ff, l1, ff, l1, z, z, z, z, z, z, z, (i6 (2))]]))]
def rh_145 : PV := (.one (.lst [[tt, l1, ff, l1, z, z, z, z, z, z, z, (i6 (2))]]))
theorem mh_145 : (ER 60).pure 40 ah_145 = some rh_145 := isV_eq (by kernel_rfl)
def ah_146 : List PV := [(.one (.lst [])), (.one (.lst [[ff, l1, ff, l1, z, z, z, z, z, z, z, (i6 (3))]]))]
def rh_146 : PV := (.one (.lst [[tt, l1, ff, l1, z, z, z, z, z, z, z, (i6 (3))]]))
theorem mh_146 : (ER 60).pure 40 ah_146 = some rh_146 := isV_eq (by kernel_rfl)
def ah_147 : List PV := [(.one (.lst [])), (.one (.lst []))]
def rh_147 : PV := (.one (.lst []))
theorem mh_147 : (ER 60).pure 40 ah_147 = some rh_147 := isV_eq (by kernel_rfl)
def ah_148 : List PV := [(.agg [z, z, z, z, z, z, z, z])]
def rh_148 : PV := (.one z)
theorem mh_148 : (ER 60).pure 81 ah_148 = some rh_148 := isV_eq (by kernel_rfl)
def ah_149 : List PV := [(.agg [z, z, z, z, z, z, z, o])]
def rh_149 : PV := (.one o)
theorem mh_149 : (ER 60).pure 81 ah_149 = some rh_149 := isV_eq (by kernel_rfl)
def ah_150 : List PV := [(.agg [z, z, z, z, z, z, z, (i6 (2))])]
def rh_150 : PV := (.one (i6 (2)))
theorem mh_150 : (ER 60).pure 81 ah_150 = some rh_150 := isV_eq (by kernel_rfl)
def ah_151 : List PV := [(.agg [z, o, z, z, z, z, z, z])]
def rh_151 : PV := (.one o)
theorem mh_151 : (ER 60).pure 81 ah_151 = some rh_151 := isV_eq (by kernel_rfl)
def ah_152 : List PV := [(.agg [z, o, z, z, z, z, z, (i6 (2))])]
def rh_152 : PV := (.one (i6 (3)))
theorem mh_152 : (ER 60).pure 81 ah_152 = some rh_152 := isV_eq (by kernel_rfl)
def ah_153 : List PV := [(.agg [o, z, z, z, z, z, z, z])]
def rh_153 : PV := (.one o)
theorem mh_153 : (ER 60).pure 81 ah_153 = some rh_153 := isV_eq (by kernel_rfl)
def ah_154 : List PV := [(.agg [o, z, z, z, z, z, z, o])]
def rh_154 : PV := (.one (i6 (2)))
theorem mh_154 : (ER 60).pure 81 ah_154 = some rh_154 := isV_eq (by kernel_rfl)
def ah_155 : List PV := [(.agg [o, z, z, z, z, z, z, (i6 (2))])]
def rh_155 : PV := (.one (i6 (3)))
theorem mh_155 : (ER 60).pure 81 ah_155 = some rh_155 := isV_eq (by kernel_rfl)
def ah_156 : List PV := [(.agg [o, o, z, z, z, z, z, z])]
def rh_156 : PV := (.one (i6 (2)))
theorem mh_156 : (ER 60).pure 81 ah_156 = some rh_156 := isV_eq (by kernel_rfl)
def ah_157 : List PV := [(.agg [o, o, z, z, z, z, z, o])]
def rh_157 : PV := (.one (i6 (3)))
theorem mh_157 : (ER 60).pure 81 ah_157 = some rh_157 := isV_eq (by kernel_rfl)
def ah_158 : List PV := [(.agg [(i6 (2)), z, z, z, z, z, z, z])]
def rh_158 : PV := (.one (i6 (2)))
theorem mh_158 : (ER 60).pure 81 ah_158 = some rh_158 := isV_eq (by kernel_rfl)
def ah_159 : List PV := [(.agg [(i6 (2)), z, z, z, z, z, z, o])]
def rh_159 : PV := (.one (i6 (3)))
theorem mh_159 : (ER 60).pure 81 ah_159 = some rh_159 := isV_eq (by kernel_rfl)
def ah_160 : List PV := [(.agg [(i6 (2)), z, z, z, z, z, z, (i6 (2))])]
def rh_160 : PV := (.one (i6 (4)))
theorem mh_160 : (ER 60).pure 81 ah_160 = some rh_160 := isV_eq (by kernel_rfl)
def ah_161 : List PV := [(.agg [(i6 (2)), o, z, z, z, z, z, z])]
def rh_161 : PV := (.one (i6 (3)))
theorem mh_161 : (ER 60).pure 81 ah_161 = some rh_161 := isV_eq (by kernel_rfl)
def ah_162 : List PV := [(.agg [(i6 (3)), z, z, z, z, z, z, z])]
def rh_162 : PV := (.one (i6 (3)))
theorem mh_162 : (ER 60).pure 81 ah_162 = some rh_162 := isV_eq (by kernel_rfl)
def ah_163 : List PV := [(.agg [(i6 (3)), z, z, z, z, z, z, o])]
def rh_163 : PV := (.one (i6 (4)))
theorem mh_163 : (ER 60).pure 81 ah_163 = some rh_163 := isV_eq (by kernel_rfl)
def ah_164 : List PV := [(.agg [(i6 (3)), o, z, z, z, z, z, z])]
def rh_164 : PV := (.one (i6 (4)))
theorem mh_164 : (ER 60).pure 81 ah_164 = some rh_164 := isV_eq (by kernel_rfl)
def ah_165 : List PV := [(.agg [z, o, z, z, z, z, z, z]), (.agg [z, z, z, z, z, z, z, z])]
def rh_165 : PV := (.agg [z, z, z, z, z, z, z, z])
theorem mh_165 : (ER 60).pure 165 ah_165 = some rh_165 := isV_eq (by kernel_rfl)
def ah_166 : List PV := [(.agg [z, o, z, z, z, z, z, z]), (.agg [z, z, z, z, z, z, z, (i6 (2))])]
def rh_166 : PV := (.agg [z, z, z, z, z, z, z, z])
theorem mh_166 : (ER 60).pure 165 ah_166 = some rh_166 := isV_eq (by kernel_rfl)
def ah_167 : List PV := [(.agg [z, o, z, z, z, z, z, z]), (.agg [o, z, z, z, z, z, z, z])]
def rh_167 : PV := (.agg [z, z, z, z, z, z, z, z])
theorem mh_167 : (ER 60).pure 165 ah_167 = some rh_167 := isV_eq (by kernel_rfl)
def ah_168 : List PV := [(.agg [z, o, z, z, z, z, z, z]), (.agg [o, z, z, z, z, z, z, o])]
def rh_168 : PV := (.agg [z, z, z, z, z, z, z, z])
theorem mh_168 : (ER 60).pure 165 ah_168 = some rh_168 := isV_eq (by kernel_rfl)
def ah_169 : List PV := [(.agg [z, o, z, z, z, z, z, z]), (.agg [(i6 (2)), z, z, z, z, z, z, z])]
def rh_169 : PV := (.agg [z, z, z, z, z, z, z, z])
theorem mh_169 : (ER 60).pure 165 ah_169 = some rh_169 := isV_eq (by kernel_rfl)
def ah_170 : List PV := [(.agg [z, o, z, z, z, z, z, z]), (.agg [(i6 (3)), z, z, z, z, z, z, z])]
def rh_170 : PV := (.agg [z, z, z, z, z, z, z, z])
theorem mh_170 : (ER 60).pure 165 ah_170 = some rh_170 := isV_eq (by kernel_rfl)
def ah_171 : List PV := [(.agg [o, z, z, z, z, z, z, z]), (.agg [z, z, z, z, z, z, z, z])]
def rh_171 : PV := (.agg [z, z, z, z, z, z, z, z])
theorem mh_171 : (ER 60).pure 165 ah_171 = some rh_171 := isV_eq (by kernel_rfl)
def ah_172 : List PV := [(.agg [o, z, z, z, z, z, z, o]), (.agg [z, z, z, z, z, z, z, (i6 (2))])]
def rh_172 : PV := (.agg [z, z, z, z, z, z, z, o])
theorem mh_172 : (ER 60).pure 165 ah_172 = some rh_172 := isV_eq (by kernel_rfl)
def ah_173 : List PV := [(.agg [o, z, z, z, z, z, z, o]), (.agg [o, z, z, z, z, z, z, z])]
def rh_173 : PV := (.agg [o, z, z, z, z, z, z, z])
theorem mh_173 : (ER 60).pure 165 ah_173 = some rh_173 := isV_eq (by kernel_rfl)
def ah_174 : List PV := [(.agg [o, z, z, z, z, z, z, o]), (.agg [(i6 (2)), z, z, z, z, z, z, z])]
def rh_174 : PV := (.agg [o, z, z, z, z, z, z, z])
theorem mh_174 : (ER 60).pure 165 ah_174 = some rh_174 := isV_eq (by kernel_rfl)
def ah_175 : List PV := [(.agg [o, z, z, z, z, z, z, o]), (.agg [(i6 (3)), z, z, z, z, z, z, z])]
def rh_175 : PV := (.agg [o, z, z, z, z, z, z, z])
theorem mh_175 : (ER 60).pure 165 ah_175 = some rh_175 := isV_eq (by kernel_rfl)
def ah_176 : List PV := [(.agg [(i6 (2)), z, z, z, z, z, z, z]), (.agg [z, z, z, z, z, z, z, (i6 (2))])]
def rh_176 : PV := (.agg [z, z, z, z, z, z, z, z])
theorem mh_176 : (ER 60).pure 165 ah_176 = some rh_176 := isV_eq (by kernel_rfl)
def ah_177 : List PV := [(.agg [(i6 (2)), z, z, z, z, z, z, z]), (.agg [o, z, z, z, z, z, z, z])]
def rh_177 : PV := (.agg [o, z, z, z, z, z, z, z])
theorem mh_177 : (ER 60).pure 165 ah_177 = some rh_177 := isV_eq (by kernel_rfl)
def ah_178 : List PV := [(.agg [(i6 (3)), z, z, z, z, z, z, z]), (.agg [(i6 (2)), z, z, z, z, z, z, z])]
def rh_178 : PV := (.agg [(i6 (2)), z, z, z, z, z, z, z])
theorem mh_178 : (ER 60).pure 165 ah_178 = some rh_178 := isV_eq (by kernel_rfl)
def Mh : Memo := [(139, ah_0, rh_0), (139, ah_1, rh_1), (139, ah_2, rh_2), (139, ah_3, rh_3), (139, ah_4, rh_4), (139, ah_5, rh_5), (139, ah_6, rh_6), (139, ah_7, rh_7), (139, ah_8, rh_8), (139, ah_9, rh_9), (139, ah_10, rh_10), (139, ah_11, rh_11), (139, ah_12, rh_12), (139, ah_13, rh_13), (139, ah_14, rh_14), (139, ah_15, rh_15), (139, ah_16, rh_16), (139, ah_17, rh_17), (139, ah_18, rh_18), (103, ah_19, rh_19), (103, ah_20, rh_20), (103, ah_21, rh_21), (103, ah_22, rh_22), (103, ah_23, rh_23), (103, ah_24, rh_24), (103, ah_25, rh_25), (103, ah_26, rh_26), (103, ah_27, rh_27), (103, ah_28, rh_28), (103, ah_29, rh_29), (103, ah_30, rh_30), (103, ah_31, rh_31), (103, ah_32, rh_32), (103, ah_33, rh_33), (103, ah_34, rh_34), (103, ah_35, rh_35), (103, ah_36, rh_36), (103, ah_37, rh_37), (103, ah_38, rh_38), (103, ah_39, rh_39), (103, ah_40, rh_40), (103, ah_41, rh_41), (103, ah_42, rh_42), (103, ah_43, rh_43), (103, ah_44, rh_44), (103, ah_45, rh_45), (103, ah_46, rh_46), (103, ah_47, rh_47), (103, ah_48, rh_48), (103, ah_49, rh_49), (103, ah_50, rh_50), (103, ah_51, rh_51), (103, ah_52, rh_52), (103, ah_53, rh_53), (103, ah_54, rh_54), (103, ah_55, rh_55), (103, ah_56, rh_56), (103, ah_57, rh_57), (103, ah_58, rh_58), (103, ah_59, rh_59), (103, ah_60, rh_60), (103, ah_61, rh_61), (103, ah_62, rh_62), (103, ah_63, rh_63), (103, ah_64, rh_64), (103, ah_65, rh_65), (103, ah_66, rh_66), (103, ah_67, rh_67), (103, ah_68, rh_68), (103, ah_69, rh_69), (103, ah_70, rh_70), (103, ah_71, rh_71), (103, ah_72, rh_72), (137, ah_73, rh_73), (137, ah_74, rh_74), (137, ah_75, rh_75), (137, ah_76, rh_76), (137, ah_77, rh_77), (137, ah_78, rh_78), (137, ah_79, rh_79), (137, ah_80, rh_80), (137, ah_81, rh_81), (137, ah_82, rh_82), (137, ah_83, rh_83), (137, ah_84, rh_84), (137, ah_85, rh_85), (137, ah_86, rh_86), (137, ah_87, rh_87), (137, ah_88, rh_88), (137, ah_89, rh_89), (137, ah_90, rh_90), (137, ah_91, rh_91), (137, ah_92, rh_92), (137, ah_93, rh_93), (137, ah_94, rh_94), (137, ah_95, rh_95), (137, ah_96, rh_96), (137, ah_97, rh_97), (137, ah_98, rh_98), (111, ah_99, rh_99), (111, ah_100, rh_100), (40, ah_101, rh_101), (40, ah_102, rh_102), (40, ah_103, rh_103), (40, ah_104, rh_104), (40, ah_105, rh_105), (40, ah_106, rh_106), (40, ah_107, rh_107), (40, ah_108, rh_108), (40, ah_109, rh_109), (40, ah_110, rh_110), (40, ah_111, rh_111), (40, ah_112, rh_112), (40, ah_113, rh_113), (40, ah_114, rh_114), (40, ah_115, rh_115), (40, ah_116, rh_116), (40, ah_117, rh_117), (40, ah_118, rh_118), (40, ah_119, rh_119), (40, ah_120, rh_120), (40, ah_121, rh_121), (40, ah_122, rh_122), (40, ah_123, rh_123), (40, ah_124, rh_124), (40, ah_125, rh_125), (40, ah_126, rh_126), (40, ah_127, rh_127), (40, ah_128, rh_128), (40, ah_129, rh_129), (40, ah_130, rh_130), (40, ah_131, rh_131), (40, ah_132, rh_132), (40, ah_133, rh_133), (40, ah_134, rh_134), (40, ah_135, rh_135), (40, ah_136, rh_136), (40, ah_137, rh_137), (40, ah_138, rh_138), (40, ah_139, rh_139), (40, ah_140, rh_140), (40, ah_141, rh_141), (40, ah_142, rh_142), (40, ah_143, rh_143), (40, ah_144, rh_144), (40, ah_145, rh_145), (40, ah_146, rh_146), (40, ah_147, rh_147), (81, ah_148, rh_148), (81, ah_149, rh_149), (81, ah_150, rh_150), (81, ah_151, rh_151), (81, ah_152, rh_152), (81, ah_153, rh_153), (81, ah_154, rh_154), (81, ah_155, rh_155), (81, ah_156, rh_156), (81, ah_157, rh_157), (81, ah_158, rh_158), (81, ah_159, rh_159), (81, ah_160, rh_160), (81, ah_161, rh_161), (81, ah_162, rh_162), (81, ah_163, rh_163), (81, ah_164, rh_164), (165, ah_165, rh_165), (165, ah_166, rh_166), (165, ah_167, rh_167), (165, ah_168, rh_168), (165, ah_169, rh_169), (165, ah_170, rh_170), (165, ah_171, rh_171), (165, ah_172, rh_172), (165, ah_173, rh_173), (165, ah_174, rh_174), (165, ah_175, rh_175), (165, ah_176, rh_176), (165, ah_177, rh_177), (165, ah_178, rh_178)] ++ M0
theorem Mh_ok : MemoOk Tryz.prog Mh :=
  .cons (ER_ok 60) mh_0 ( .cons (ER_ok 60) mh_1 ( .cons (ER_ok 60) mh_2 ( .cons (ER_ok 60) mh_3 ( .cons (ER_ok 60) mh_4 ( .cons (ER_ok 60) mh_5 ( .cons (ER_ok 60) mh_6 ( .cons (ER_ok 60) mh_7 ( .cons (ER_ok 60) mh_8 ( .cons (ER_ok 60) mh_9 ( .cons (ER_ok 60) mh_10 ( .cons (ER_ok 60) mh_11 ( .cons (ER_ok 60) mh_12 ( .cons (ER_ok 60) mh_13 ( .cons (ER_ok 60) mh_14 ( .cons (ER_ok 60) mh_15 ( .cons (ER_ok 60) mh_16 ( .cons (ER_ok 60) mh_17 ( .cons (ER_ok 60) mh_18 ( .cons (ER_ok 60) mh_19 ( .cons (ER_ok 60) mh_20 ( .cons (ER_ok 60) mh_21 ( .cons (ER_ok 60) mh_22 ( .cons (ER_ok 60) mh_23 ( .cons (ER_ok 60) mh_24 ( .cons (ER_ok 60) mh_25 ( .cons (ER_ok 60) mh_26 ( .cons (ER_ok 60) mh_27 ( .cons (ER_ok 60) mh_28 ( .cons (ER_ok 60) mh_29 ( .cons (ER_ok 60) mh_30 ( .cons (ER_ok 60) mh_31 ( .cons (ER_ok 60) mh_32 ( .cons (ER_ok 60) mh_33 ( .cons (ER_ok 60) mh_34 ( .cons (ER_ok 60) mh_35 ( .cons (ER_ok 60) mh_36 ( .cons (ER_ok 60) mh_37 ( .cons (ER_ok 60) mh_38 ( .cons (ER_ok 60) mh_39 ( .cons (ER_ok 60) mh_40 ( .cons (ER_ok 60) mh_41 ( .cons (ER_ok 60) mh_42 ( .cons (ER_ok 60) mh_43 ( .cons (ER_ok 60) mh_44 ( .cons (ER_ok 60) mh_45 ( .cons (ER_ok 60) mh_46 ( .cons (ER_ok 60) mh_47 ( .cons (ER_ok 60) mh_48 ( .cons (ER_ok 60) mh_49 ( .cons (ER_ok 60) mh_50 ( .cons (ER_ok 60) mh_51 ( .cons (ER_ok 60) mh_52 ( .cons (ER_ok 60) mh_53 ( .cons (ER_ok 60) mh_54 ( .cons (ER_ok 60) mh_55 ( .cons (ER_ok 60) mh_56 ( .cons (ER_ok 60) mh_57 ( .cons (ER_ok 60) mh_58 ( .cons (ER_ok 60) mh_59 ( .cons (ER_ok 60) mh_60 ( .cons (ER_ok 60) mh_61 ( .cons (ER_ok 60) mh_62 ( .cons (ER_ok 60) mh_63 ( .cons (ER_ok 60) mh_64 ( .cons (ER_ok 60) mh_65 ( .cons (ER_ok 60) mh_66 ( .cons (ER_ok 60) mh_67 ( .cons (ER_ok 60) mh_68 ( .cons (ER_ok 60) mh_69 ( .cons (ER_ok 60) mh_70 ( .cons (ER_ok 60) mh_71 ( .cons (ER_ok 60) mh_72 ( .cons (ER_ok 60) mh_73 ( .cons (ER_ok 60) mh_74 ( .cons (ER_ok 60) mh_75 ( .cons (ER_ok 60) mh_76 ( .cons (ER_ok 60) mh_77 ( .cons (ER_ok 60) mh_78 ( .cons (ER_ok 60) mh_79 ( .cons (ER_ok 60) mh_80 ( .cons (ER_ok 60) mh_81 ( .cons (ER_ok 60) mh_82 ( .cons (ER_ok 60) mh_83 ( .cons (ER_ok 60) mh_84 ( .cons (ER_ok 60) mh_85 ( .cons (ER_ok 60) mh_86 ( .cons (ER_ok 60) mh_87 ( .cons (ER_ok 60) mh_88 ( .cons (ER_ok 60) mh_89 ( .cons (ER_ok 60) mh_90 ( .cons (ER_ok 60) mh_91 ( .cons (ER_ok 60) mh_92 ( .cons (ER_ok 60) mh_93 ( .cons (ER_ok 60) mh_94 ( .cons (ER_ok 60) mh_95 ( .cons (ER_ok 60) mh_96 ( .cons (ER_ok 60) mh_97 ( .cons (ER_ok 60) mh_98 ( .cons (ER_ok 60) mh_99 ( .cons (ER_ok 60) mh_100 ( .cons (ER_ok 60) mh_101 ( .cons (ER_ok 60) mh_102 ( .cons (ER_ok 60) mh_103 ( .cons (ER_ok 60) mh_104 ( .cons (ER_ok 60) mh_105 ( .cons (ER_ok 60) mh_106 ( .cons (ER_ok 60) mh_107 ( .cons (ER_ok 60) mh_108 ( .cons (ER_ok 60) mh_109 ( .cons (ER_ok 60) mh_110 ( .cons (ER_ok 60) mh_111 ( .cons (ER_ok 60) mh_112 ( .cons (ER_ok 60) mh_113 ( .cons (ER_ok 60) mh_114 ( .cons (ER_ok 60) mh_115 ( .cons (ER_ok 60) mh_116 ( .cons (ER_ok 60) mh_117 ( .cons (ER_ok 60) mh_118 ( .cons (ER_ok 60) mh_119 ( .cons (ER_ok 60) mh_120 ( .cons (ER_ok 60) mh_121 ( .cons (ER_ok 60) mh_122 ( .cons (ER_ok 60) mh_123 ( .cons (ER_ok 60) mh_124 ( .cons (ER_ok 60) mh_125 ( .cons (ER_ok 60) mh_126 ( .cons (ER_ok 60) mh_127 ( .cons (ER_ok 60) mh_128 ( .cons (ER_ok 60) mh_129 ( .cons (ER_ok 60) mh_130 ( .cons (ER_ok 60) mh_131 ( .cons (ER_ok 60) mh_132 ( .cons (ER_ok 60) mh_133 ( .cons (ER_ok 60) mh_134 ( .cons (ER_ok 60) mh_135 ( .cons (ER_ok 60) mh_136 ( .cons (ER_ok 60) mh_137 ( .cons (ER_ok 60) mh_138 ( .cons (ER_ok 60) mh_139 ( .cons (ER_ok 60) mh_140 ( .cons (ER_ok 60) mh_141 ( .cons (ER_ok 60) mh_142 ( .cons (ER_ok 60) mh_143 ( .cons (ER_ok 60) mh_144 ( .cons (ER_ok 60) mh_145 ( .cons (ER_ok 60) mh_146 ( .cons (ER_ok 60) mh_147 ( .cons (ER_ok 60) mh_148 ( .cons (ER_ok 60) mh_149 ( .cons (ER_ok 60) mh_150 ( .cons (ER_ok 60) mh_151 ( .cons (ER_ok 60) mh_152 ( .cons (ER_ok 60) mh_153 ( .cons (ER_ok 60) mh_154 ( .cons (ER_ok 60) mh_155 ( .cons (ER_ok 60) mh_156 ( .cons (ER_ok 60) mh_157 ( .cons (ER_ok 60) mh_158 ( .cons (ER_ok 60) mh_159 ( .cons (ER_ok 60) mh_160 ( .cons (ER_ok 60) mh_161 ( .cons (ER_ok 60) mh_162 ( .cons (ER_ok 60) mh_163 ( .cons (ER_ok 60) mh_164 ( .cons (ER_ok 60) mh_165 ( .cons (ER_ok 60) mh_166 ( .cons (ER_ok 60) mh_167 ( .cons (ER_ok 60) mh_168 ( .cons (ER_ok 60) mh_169 ( .cons (ER_ok 60) mh_170 ( .cons (ER_ok 60) mh_171 ( .cons (ER_ok 60) mh_172 ( .cons (ER_ok 60) mh_173 ( .cons (ER_ok 60) mh_174 ( .cons (ER_ok 60) mh_175 ( .cons (ER_ok 60) mh_176 ( .cons (ER_ok 60) mh_177 ( .cons (ER_ok 60) mh_178 (M0_ok)))))))))))))))))))))))))))))))))))))))))))))))))))))))))))))))))))))))))))))))))))))))))))))))))))))))))))))))))))))))))))))))))))))))))))))))))))))))))))))))))))))))))))))))))))
def EH (n : Nat) : Oracle := ev (withMemo E0B Mh) (without [76, 118, 36, 80, 136, 102, 61, 139, 103, 137, 111, 40, 81, 165] X) 1000 n
theorem EH_ok (n : Nat) : OracleOk Tryz.prog (EH n) := ev_ok mix _ (without_ok _ X_ok) 1000 _ (withMemo_ok E0B_ok Mh_ok) n

end Go.Proofs.YthmlggklnfmidaaGreat
