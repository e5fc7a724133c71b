/- Closed calls of package rational, checked by the kernel (written by gen_memo.py). -/
import Derived.Test.YthmlggklnfmidaaGreatBaseB
namespace Go.Proofs.YthmlggklnfmidaaGreat
open Go.Ev
abbrev i6 (n : Int) : PL := .int .i64 n
abbrev z : PL := .int .i64 0
abbrev o : PL := .int .i64 1
abbrev u1 : PL := .int .u32 1
abbrev l1 : PL := .lst [[u1]]
abbrev ff : PL := .bool false
abbrev tt : PL := .bool true
def a0_0 : List PV := [(.agg [ff, l1, ff, l1]), (.agg [ff, l1, ff, l1])]
def r0_0 : PV := (.agg [ff, l1, ff, l1])
theorem m0_0 : (EB 60).pure 76 a0_0 = some r0_0 := isV_eq (by kernel_rfl)
def a0_1 : List PV := [(.agg [ff, l1, ff, l1]), (.agg [ff, (.lst [[(.int .u32 (2))]]), ff, l1])]
def r0_1 : PV := (.agg [ff, (.lst [[(.int .u32 (2))]]), ff, l1])
theorem m0_1 : (EB 60).pure 76 a0_1 = some r0_1 := isV_eq (by kernel_rfl)
def a0_2 : List PV := [(.agg [ff, l1, ff, l1]), (.agg [tt, l1, ff, l1])]
def r0_2 : PV := (.agg [tt, l1, ff, l1])
theorem m0_2 : (EB 60).pure 76 a0_2 = some r0_2 := isV_eq (by kernel_rfl)
def a0_3 : List PV := [(.agg [ff, l1, ff, l1]), (.agg [tt, (.lst [[(.int .u32 (3))]]), ff, l1])]
def r0_3 : PV := (.agg [tt, (.lst [[(.int .u32 (3))]]), ff, l1])
theorem m0_3 : (EB 60).pure 76 a0_3 = some r0_3 := isV_eq (by kernel_rfl)
def a0_4 : List PV := [(.agg [ff, (.lst [[(.int .u32 (2))]]), ff, l1]), (.agg [ff, l1, ff, l1])]
def r0_4 : PV := (.agg [ff, (.lst [[(.int .u32 (2))]]), ff, l1])
theorem m0_4 : (EB 60).pure 76 a0_4 = some r0_4 := isV_eq (by kernel_rfl)
def a0_5 : List PV := [(.agg [ff, (.lst [[(.int .u32 (2))]]), ff, l1]), (.agg [tt, l1, ff, l1])]
def r0_5 : PV := (.agg [tt, (.lst [[(.int .u32 (2))]]), ff, l1])
theorem m0_5 : (EB 60).pure 76 a0_5 = some r0_5 := isV_eq (by kernel_rfl)
def a0_6 : List PV := [(.agg [ff, (.lst [[(.int .u32 (3))]]), ff, l1]), (.agg [ff, l1, ff, l1])]
def r0_6 : PV := (.agg [ff, (.lst [[(.int .u32 (3))]]), ff, l1])
theorem m0_6 : (EB 60).pure 76 a0_6 = some r0_6 := isV_eq (by kernel_rfl)
def a0_7 : List PV := [(.agg [ff, (.lst [[(.int .u32 (3))]]), ff, l1]), (.agg [tt, l1, ff, l1])]
def r0_7 : PV := (.agg [tt, (.lst [[(.int .u32 (3))]]), ff, l1])
theorem m0_7 : (EB 60).pure 76 a0_7 = some r0_7 := isV_eq (by kernel_rfl)
def a0_8 : List PV := [(.agg [tt, l1, ff, l1]), (.agg [ff, l1, ff, l1])]
def r0_8 : PV := (.agg [tt, l1, ff, l1])
theorem m0_8 : (EB 60).pure 76 a0_8 = some r0_8 := isV_eq (by kernel_rfl)
def a0_9 : List PV := [(.agg [tt, l1, ff, l1]), (.agg [tt, l1, ff, l1])]
def r0_9 : PV := (.agg [ff, l1, ff, l1])
theorem m0_9 : (EB 60).pure 76 a0_9 = some r0_9 := isV_eq (by kernel_rfl)
def a0_10 : List PV := [(.agg [ff, l1, ff, l1]), (.agg [ff, l1, ff, l1])]
def r0_10 : PV := (.agg [ff, (.lst [[(.int .u32 (2))]]), ff, l1])
theorem m0_10 : (EB 60).pure 118 a0_10 = some r0_10 := isV_eq (by kernel_rfl)
def a0_11 : List PV := [(.agg [ff, l1, ff, l1]), (.agg [tt, l1, ff, l1])]
def r0_11 : PV := (.agg [ff, .nilS, ff, l1])
theorem m0_11 : (EB 60).pure 118 a0_11 = some r0_11 := isV_eq (by kernel_rfl)
def a0_12 : List PV := [(.agg [ff, (.lst [[(.int .u32 (2))]]), ff, l1]), (.agg [tt, (.lst [[(.int .u32 (2))]]), ff, l1])]
def r0_12 : PV := (.agg [ff, .nilS, ff, l1])
theorem m0_12 : (EB 60).pure 118 a0_12 = some r0_12 := isV_eq (by kernel_rfl)
def a0_13 : List PV := [(.agg [ff, (.lst [[(.int .u32 (3))]]), ff, l1]), (.agg [tt, (.lst [[(.int .u32 (3))]]), ff, l1])]
def r0_13 : PV := (.agg [ff, .nilS, ff, l1])
theorem m0_13 : (EB 60).pure 118 a0_13 = some r0_13 := isV_eq (by kernel_rfl)
def a0_14 : List PV := [(.agg [tt, l1, ff, l1]), (.agg [ff, l1, ff, l1])]
def r0_14 : PV := (.agg [ff, .nilS, ff, l1])
theorem m0_14 : (EB 60).pure 118 a0_14 = some r0_14 := isV_eq (by kernel_rfl)
def a0_15 : List PV := [(.agg [tt, l1, ff, l1]), (.agg [ff, (.lst [[(.int .u32 (2))]]), ff, l1])]
def r0_15 : PV := (.agg [ff, l1, ff, l1])
theorem m0_15 : (EB 60).pure 118 a0_15 = some r0_15 := isV_eq (by kernel_rfl)
def a0_16 : List PV := [(.agg [tt, l1, ff, l1]), (.agg [ff, (.lst [[(.int .u32 (3))]]), ff, l1])]
def r0_16 : PV := (.agg [ff, (.lst [[(.int .u32 (2))]]), ff, l1])
theorem m0_16 : (EB 60).pure 118 a0_16 = some r0_16 := isV_eq (by kernel_rfl)
def a0_17 : List PV := [(.agg [tt, l1, ff, l1]), (.agg [tt, (.lst [[(.int .u32 (2))]]), ff, l1])]
def r0_17 : PV := (.agg [tt, (.lst [[(.int .u32 (3))]]), ff, l1])
theorem m0_17 : (EB 60).pure 118 a0_17 = some r0_17 := isV_eq (by kernel_rfl)
def a0_18 : List PV := [(.agg [tt, (.lst [[(.int .u32 (2))]]), ff, l1]), (.agg [ff, l1, ff, l1])]
def r0_18 : PV := (.agg [tt, l1, ff, l1])
theorem m0_18 : (EB 60).pure 118 a0_18 = some r0_18 := isV_eq (by kernel_rfl)
def a0_19 : List PV := [(.agg [tt, (.lst [[(.int .u32 (3))]]), ff, l1]), (.agg [ff, (.lst [[(.int .u32 (3))]]), ff, l1])]
def r0_19 : PV := (.agg [ff, .nilS, ff, l1])
theorem m0_19 : (EB 60).pure 118 a0_19 = some r0_19 := isV_eq (by kernel_rfl)
def a0_20 : List PV := [(.one o)]
def r0_20 : PV := (.agg [ff, l1, ff, l1])
theorem m0_20 : (EB 60).pure 36 a0_20 = some r0_20 := isV_eq (by kernel_rfl)
def a0_21 : List PV := [(.agg [ff, l1, ff, l1])]
def r0_21 : PV := (.agg [tt, l1, ff, l1])
theorem m0_21 : (EB 60).pure 80 a0_21 = some r0_21 := isV_eq (by kernel_rfl)
def a0_22 : List PV := [(.agg [ff, (.lst [[(.int .u32 (2))]]), ff, l1])]
def r0_22 : PV := (.agg [tt, (.lst [[(.int .u32 (2))]]), ff, l1])
theorem m0_22 : (EB 60).pure 80 a0_22 = some r0_22 := isV_eq (by kernel_rfl)
def a0_23 : List PV := [(.agg [ff, (.lst [[(.int .u32 (3))]]), ff, l1])]
def r0_23 : PV := (.agg [tt, (.lst [[(.int .u32 (3))]]), ff, l1])
theorem m0_23 : (EB 60).pure 80 a0_23 = some r0_23 := isV_eq (by kernel_rfl)
def a0_24 : List PV := [(.agg [tt, l1, ff, l1])]
def r0_24 : PV := (.agg [ff, l1, ff, l1])
theorem m0_24 : (EB 60).pure 80 a0_24 = some r0_24 := isV_eq (by kernel_rfl)
def a0_25 : List PV := [(.agg [tt, (.lst [[(.int .u32 (2))]]), ff, l1])]
def r0_25 : PV := (.agg [ff, (.lst [[(.int .u32 (2))]]), ff, l1])
theorem m0_25 : (EB 60).pure 80 a0_25 = some r0_25 := isV_eq (by kernel_rfl)
def a0_26 : List PV := [(.agg [tt, (.lst [[(.int .u32 (3))]]), ff, l1])]
def r0_26 : PV := (.agg [ff, (.lst [[(.int .u32 (3))]]), ff, l1])
theorem m0_26 : (EB 60).pure 80 a0_26 = some r0_26 := isV_eq (by kernel_rfl)
def a0_27 : List PV := [(.agg [ff, l1, ff, l1])]
def r0_27 : PV := (.tup [(.agg [ff, l1, ff, l1]), (.one z)])
theorem m0_27 : (EB 60).pure 136 a0_27 = some r0_27 := isV_eq (by kernel_rfl)
def a0_28 : List PV := [(.agg [tt, l1, ff, l1])]
def r0_28 : PV := (.tup [(.agg [tt, l1, ff, l1]), (.one z)])
theorem m0_28 : (EB 60).pure 136 a0_28 = some r0_28 := isV_eq (by kernel_rfl)
def a0_29 : List PV := [(.agg [ff, l1, ff, l1]), (.agg [ff, l1, ff, l1])]
def r0_29 : PV := (.tup [(.agg [ff, l1, ff, l1]), (.one z)])
theorem m0_29 : (EB 60).pure 102 a0_29 = some r0_29 := isV_eq (by kernel_rfl)
def a0_30 : List PV := [(.agg [ff, (.lst [[(.int .u32 (2))]]), ff, l1]), (.agg [ff, l1, ff, l1])]
def r0_30 : PV := (.tup [(.agg [ff, (.lst [[(.int .u32 (2))]]), ff, l1]), (.one z)])
theorem m0_30 : (EB 60).pure 102 a0_30 = some r0_30 := isV_eq (by kernel_rfl)
def a0_31 : List PV := [(.agg [tt, l1, ff, l1]), (.agg [ff, l1, ff, l1])]
def r0_31 : PV := (.tup [(.agg [tt, l1, ff, l1]), (.one z)])
theorem m0_31 : (EB 60).pure 102 a0_31 = some r0_31 := isV_eq (by kernel_rfl)
def a0_32 : List PV := [(.one (.lst [[z, z, z, z, z, z, z, o], [o, o, o, o, o, o, o, o], [z, z, z, z, z, z, z, (i6 (-1))], [z, z, z, z, z, z, (i6 (-1)), z], [z, z, z, z, z, (i6 (-1)), z, z], [z, z, z, z, (i6 (-1)), z, z, z], [z, z, z, (i6 (-1)), z, z, z, z], [z, z, (i6 (-1)), z, z, z, z, z], [z, (i6 (-1)), z, z, z, z, z, z]]))]
def r0_32 : PV := (.one tt)
theorem m0_32 : (EB 60).pure 61 a0_32 = some r0_32 := isV_eq (by kernel_rfl)
def a0_33 : List PV := [(.one (.lst [[o, z, z, z, z, z, z, z], [o, o, o, o, o, o, o, o], [z, z, z, z, z, z, z, (i6 (-1))], [z, z, z, z, z, z, (i6 (-1)), z], [z, z, z, z, z, (i6 (-1)), z, z], [z, z, z, z, (i6 (-1)), z, z, z], [z, z, z, (i6 (-1)), z, z, z, z], [z, z, (i6 (-1)), z, z, z, z, z], [z, (i6 (-1)), z, z, z, z, z, z]]))]
def r0_33 : PV := (.one tt)
theorem m0_33 : (EB 60).pure 61 a0_33 = some r0_33 := isV_eq (by kernel_rfl)
def a0_34 : List PV := [(.one (.lst [[o, o, o, o, o, o, o, o], [z, z, z, z, z, z, z, (i6 (-1))], [z, z, z, z, z, z, (i6 (-1)), z], [z, z, z, z, z, (i6 (-1)), z, z], [z, z, z, z, (i6 (-1)), z, z, z], [z, z, z, (i6 (-1)), z, z, z, z], [z, z, (i6 (-1)), z, z, z, z, z], [z, (i6 (-1)), z, z, z, z, z, z]]))]
def r0_34 : PV := (.one tt)
theorem m0_34 : (EB 60).pure 61 a0_34 = some r0_34 := isV_eq (by kernel_rfl)
def M0 : Memo := [(76, a0_0, r0_0), (76, a0_1, r0_1), (76, a0_2, r0_2), (76, a0_3, r0_3), (76, a0_4, r0_4), (76, a0_5, r0_5), (76, a0_6, r0_6), (76, a0_7, r0_7), (76, a0_8, r0_8), (76, a0_9, r0_9), (118, a0_10, r0_10), (118, a0_11, r0_11), (118, a0_12, r0_12), (118, a0_13, r0_13), (118, a0_14, r0_14), (118, a0_15, r0_15), (118, a0_16, r0_16), (118, a0_17, r0_17), (118, a0_18, r0_18), (118, a0_19, r0_19), (36, a0_20, r0_20), (80, a0_21, r0_21), (80, a0_22, r0_22), (80, a0_23, r0_23), (80, a0_24, r0_24), (80, a0_25, r0_25), (80, a0_26, r0_26), (136, a0_27, r0_27), (136, a0_28, r0_28), (102, a0_29, r0_29), (102, a0_30, r0_30), (102, a0_31, r0_31), (61, a0_32, r0_32), (61, a0_33, r0_33), (61, a0_34, r0_34)]
theorem M0_ok : MemoOk Tryz.prog M0 :=
  .cons (EB_ok 60) m0_0 ( .cons (EB_ok 60) m0_1 ( .cons (EB_ok 60) m0_2 ( .cons (EB_ok 60) m0_3 ( .cons (EB_ok 60) m0_4 ( .cons (EB_ok 60) m0_5 ( .cons (EB_ok 60) m0_6 ( .cons (EB_ok 60) m0_7 ( .cons (EB_ok 60) m0_8 ( .cons (EB_ok 60) m0_9 ( .cons (EB_ok 60) m0_10 ( .cons (EB_ok 60) m0_11 ( .cons (EB_ok 60) m0_12 ( .cons (EB_ok 60) m0_13 ( .cons (EB_ok 60) m0_14 ( .cons (EB_ok 60) m0_15 ( .cons (EB_ok 60) m0_16 ( .cons (EB_ok 60) m0_17 ( .cons (EB_ok 60) m0_18 ( .cons (EB_ok 60) m0_19 ( .cons (EB_ok 60) m0_20 ( .cons (EB_ok 60) m0_21 ( .cons (EB_ok 60) m0_22 ( .cons (EB_ok 60) m0_23 ( .cons (EB_ok 60) m0_24 ( .cons (EB_ok 60) m0_25 ( .cons (EB_ok 60) m0_26 ( .cons (EB_ok 60) m0_27 ( .cons (EB_ok 60) m0_28 ( .cons (EB_ok 60) m0_29 ( .cons (EB_ok 60) m0_30 ( .cons (EB_ok 60) m0_31 ( .cons (EB_ok 60) m0_32 ( .cons (EB_ok 60) m0_33 ( .cons (EB_ok 60) m0_34 (.nil)))))))))))))))))))))))))))))))))))
def ER (n : Nat) : Oracle := ev (withMemo E0B M0) (without [76, 118, 36, 80, 136, 102, 61] X) 1000 n
theorem ER_ok (n : Nat) : OracleOk Tryz.prog (ER n) := ev_ok mix _ (without_ok _ X_ok) 1000 _ (withMemo_ok E0B_ok M0_ok) n

end Go.Proofs.YthmlggklnfmidaaGreat
