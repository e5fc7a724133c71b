/- The examples answer true (written by gen_memo.py). -/
import Derived.Test.YthmlggklnfmidaaGreatMemoA
namespace Go.Proofs.YthmlggklnfmidaaGreat
open Go.Ev
def a2_0 : List PV := [(.one (.lst [[ff, l1, ff, l1, (i6 (2)), z, z, z, z, z, z, z], [ff, l1, ff, l1, z, (i6 (2)), z, z, z, z, z, z]])), (.one (.lst [[(.lst [[ff, l1, ff, l1, o, z, z, z, z, z, z, z], [ff, l1, ff, l1, z, o, z, z, z, z, z, z]])], [(.lst [[ff, l1, ff, l1, o, o, z, z, z, z, z, z]])]]))]
def r2_0 : PV := (.tup [(.one (.lst [[(.lst [[ff, l1, ff, l1, o, z, z, z, z, z, z, z], [ff, l1, ff, l1, z, o, z, z, z, z, z, z]])], [(.lst [[tt, (.lst [[(.int .u32 (2))]]), ff, l1, z, z, z, z, z, z, z, z]])]])), (.one tt)])
theorem m2_0 : (E2 60).pure 15 a2_0 = some r2_0 := isV_eq (by kernel_rfl)
def a2_1 : List PV := [(.one (.lst [[ff, l1, ff, l1, o, z, z, z, z, z, z, z]])), (.one (.lst [[(.lst [[ff, l1, ff, l1, o, z, z, z, z, z, z, z], [ff, l1, ff, l1, z, o, z, z, z, z, z, z]])], [(.lst [[ff, l1, ff, l1, o, o, z, z, z, z, z, z]])]]))]
def r2_1 : PV := (.tup [(.one .nilS), (.one ff)])
theorem m2_1 : (E2 60).pure 15 a2_1 = some r2_1 := isV_eq (by kernel_rfl)
def a2_2 : List PV := [(.one (.lst [[(.lst [[ff, l1, ff, l1, o, z, z, z, z, z, z, z]])]])), (.one (.lst [[(.lst [[ff, l1, ff, l1, z, o, z, z, z, z, z, z]])]]))]
def r2_2 : PV := (.tup [(.one (.lst [[(.lst [[ff, l1, ff, l1, o, o, z, z, z, z, z, z]])]])), (.one z)])
theorem m2_2 : (E2 60).pure 9 a2_2 = some r2_2 := isV_eq (by kernel_rfl)
def a2_3 : List PV := [(.one (.lst [[(.lst [[ff, l1, ff, l1, o, o, z, z, z, z, z, z]])]])), (.one (.lst [[ff, l1, ff, l1, o, z, z, z, z, z, z, z]]))]
def r2_3 : PV := (.tup [(.one (.lst [[(.lst [[ff, l1, ff, l1, z, o, z, z, z, z, z, z]])]])), (.one z)])
theorem m2_3 : (E2 60).pure 10 a2_3 = some r2_3 := isV_eq (by kernel_rfl)
def a2_4 : List PV := [(.one (.lst [[(.lst [[ff, l1, ff, l1, (i6 (2)), o, z, z, z, z, z, z]])]])), (.one (.lst [[ff, l1, ff, l1, o, z, z, z, z, z, z, z]]))]
def r2_4 : PV := (.tup [(.one (.lst [[(.lst [[ff, l1, ff, l1, z, o, z, z, z, z, z, z]])]])), (.one (i6 (2))), (.one z)])
theorem m2_4 : (E2 60).pure 11 a2_4 = some r2_4 := isV_eq (by kernel_rfl)
def a2_5 : List PV := [(.one (.lst [[(.lst [[ff, l1, ff, l1, o, z, z, z, z, z, z, z]])]])), (.one (.lst []))]
def r2_5 : PV := (.tup [(.one (.lst [[(.lst [[ff, l1, ff, l1, z, z, z, z, z, z, z, z]])]])), (.one o), (.one z)])
theorem m2_5 : (E2 60).pure 11 a2_5 = some r2_5 := isV_eq (by kernel_rfl)
def a2_6 : List PV := [(.one (.lst [[(.lst [[ff, l1, ff, l1, o, z, z, z, z, z, z, z], [tt, l1, ff, l1, z, (i6 (2)), z, z, z, z, z, z]])], [(.lst [[ff, l1, ff, l1, o, z, z, z, z, z, z, z], [ff, l1, ff, l1, z, o, z, z, z, z, z, z]])]])), (.one (.int .u8 (1)))]
def r2_6 : PV := (.tup [(.one (.lst [[(.lst [[ff, l1, ff, l1, z, (i6 (2)), z, z, z, z, z, z], [ff, l1, ff, l1, z, o, z, z, z, z, z, z]])]])), (.one z)])
theorem m2_6 : (E2 60).pure 12 a2_6 = some r2_6 := isV_eq (by kernel_rfl)
def a2_7 : List PV := [(.one (.lst [[ff, l1, ff, l1, o, z, z, z, z, z, z, z]])), (.one (.lst [[(.lst [[ff, l1, ff, l1, (i6 (3)), z, z, z, z, z, z, z]])], [(.lst [[ff, l1, ff, l1, z, o, z, z, z, z, z, z]])]]))]
def r2_7 : PV := (.tup [(.one (i6 (3))), (.one z)])
theorem m2_7 : (E2 60).pure 13 a2_7 = some r2_7 := isV_eq (by kernel_rfl)
def a2_8 : List PV := [(.one (.lst [[ff, l1, ff, l1, o, z, z, z, z, z, z, z], [ff, l1, ff, l1, z, z, z, z, z, z, z, z]])), (.one (.lst [[(.lst [[ff, l1, ff, l1, (i6 (3)), z, z, z, z, z, z, z]])], [(.lst [[ff, l1, ff, l1, z, o, z, z, z, z, z, z]])]]))]
def r2_8 : PV := (.tup [(.one z), (.one z)])
theorem m2_8 : (E2 60).pure 13 a2_8 = some r2_8 := isV_eq (by kernel_rfl)
def a2_9 : List PV := [(.one (.lst [[(.lst [[ff, l1, ff, l1, o, z, z, z, z, z, z, z], [ff, l1, ff, l1, z, o, z, z, z, z, z, z]])], [(.lst [[tt, (.lst [[(.int .u32 (2))]]), ff, l1, z, z, z, z, z, z, z, z]])]])), (.one (.lst [[(.lst [[ff, l1, ff, l1, o, z, z, z, z, z, z, z], [ff, l1, ff, l1, z, o, z, z, z, z, z, z]])], [(.lst [[ff, l1, ff, l1, o, o, z, z, z, z, z, z]])]]))]
def r2_9 : PV := (.one (.lst [[ff, l1, ff, l1, (i6 (2)), z, z, z, z, z, z, z], [ff, l1, ff, l1, z, (i6 (2)), z, z, z, z, z, z]]))
theorem m2_9 : (E2 60).pure 18 a2_9 = some r2_9 := isV_eq (by kernel_rfl)
def a2_10 : List PV := [(.one (.lst [[(.lst [[ff, l1, ff, l1, o, z, z, z, z, z, z, z]])], [(.lst [[ff, l1, ff, l1, z, o, z, z, z, z, z, z]])]])), (.one (.lst [[(.lst [[ff, l1, ff, l1, o, z, z, z, z, z, z, z], [ff, l1, ff, l1, z, o, z, z, z, z, z, z]])], [(.lst [[ff, l1, ff, l1, z, o, z, z, z, z, z, z]])]]))]
def r2_10 : PV := (.one tt)
theorem m2_10 : (E2 60).pure 19 a2_10 = some r2_10 := isV_eq (by kernel_rfl)
def M2 : Memo := [(15, a2_0, r2_0), (15, a2_1, r2_1), (9, a2_2, r2_2), (10, a2_3, r2_3), (11, a2_4, r2_4), (11, a2_5, r2_5), (12, a2_6, r2_6), (13, a2_7, r2_7), (13, a2_8, r2_8), (18, a2_9, r2_9), (19, a2_10, r2_10)] ++ M1
theorem M2_ok : MemoOk Tryz.prog M2 :=
  .cons (E2_ok 60) m2_0 ( .cons (E2_ok 60) m2_1 ( .cons (E2_ok 60) m2_2 ( .cons (E2_ok 60) m2_3 ( .cons (E2_ok 60) m2_4 ( .cons (E2_ok 60) m2_5 ( .cons (E2_ok 60) m2_6 ( .cons (E2_ok 60) m2_7 ( .cons (E2_ok 60) m2_8 ( .cons (E2_ok 60) m2_9 ( .cons (E2_ok 60) m2_10 (M1_ok)))))))))))
def E3 (n : Nat) : Oracle := ev (withMemo E0B M2) (without [76, 118, 36, 80, 136, 102, 61, 30, 9, 10, 11, 12, 13, 15, 18, 19] X) 1000 n
theorem E3_ok (n : Nat) : OracleOk Tryz.prog (E3 n) := ev_ok mix _ (without_ok _ X_ok) 1000 _ (withMemo_ok E0B_ok M2_ok) n
theorem examples_ev : (E3 60).pure 4 [] = some (.one (.bool true)) := isV_eq (by kernel_rfl)

end Go.Proofs.YthmlggklnfmidaaGreat
