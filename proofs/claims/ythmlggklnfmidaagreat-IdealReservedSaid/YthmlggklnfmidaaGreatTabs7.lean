/- Closed tables about the variable 7, checked by the kernel. -/
import Derived.Test.YthmlggklnfmidaaGreatTabs
import Derived.Test.YthmlggklnfmidaaGreatSymMade
namespace Go.Proofs.YthmlggklnfmidaaGreat
open Go.Ev

def ints7 : List PL := [.int .i64 0, .int .i64 0, .int .i64 0, .int .i64 0, .int .i64 0, .int .i64 0, .int .i64 0, .int .i64 1]
/-- The variable 7, as a term. -/
def term7 : List PL := ratOf 1 ++ ints7
def cmp7 (m : Nat × Nat × Nat) : Int := bif Nat.beq (m.1 + m.2.1 + m.2.2) 0 then 1 else -1
def sup (m : Nat × Nat × Nat) : Nat := (bif Nat.beq m.1 0 then 0 else 1) + (bif Nat.beq m.2.1 0 then 0 else 2) + (bif Nat.beq m.2.2 0 then 0 else 4)
def tab7 (E : Oracle) : Bool := allM fun m => chk (E.pure 24 [.agg ints7, .agg (intsOf m)]) (.one (.int .i64 (cmp7 m))) && chk (E.pure 24 [.agg (intsOf m), .agg ints7]) (.one (.int .i64 (-cmp7 m)))
def tabSup (E : Oracle) : Bool := allM fun m => chk (E.pure 100 [.agg (intsOf m)]) (.one (.int .u8 (Int.ofNat (sup m))))

theorem tab7_ok : tab7 (EV 20) = true := by kernel_rfl
theorem tabSup_ok : tabSup (EV 20) = true := by kernel_rfl
theorem sup7_ev : (EV 20).pure 100 [.agg ints7] = some (.one (.int .u8 128)) := chk_spec (by kernel_rfl)
theorem var7_ev : (EV 20).pure 7 [.one (.int .i64 7)] = some (.tup [.one (.lst [term7]), .one (.int .i64 0)]) := isV_eq (by kernel_rfl)

end Go.Proofs.YthmlggklnfmidaaGreat
