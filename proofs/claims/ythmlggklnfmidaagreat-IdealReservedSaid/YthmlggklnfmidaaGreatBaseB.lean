/- The interpreter of this program for closed runs. -/
import Derived.Test.YthmlggklnfmidaaGreatTabOk
import Derived.Test.YthmlggklnfmidaaGreatSorted
import Derived.Test.YthmlggklnfmidaaGreatEvMemo
namespace Go.Proofs.YthmlggklnfmidaaGreat
open Go.Ev

def inNats (n : Nat) : List Nat → Bool
  | [] => false
  | x :: xs => bif Nat.beq n x then true else inNats n xs

/-- The functions that are called over the caller's blocks. -/
def heapFs : List Nat := [39, 125, 146, 120, 126, 148, 157, 170, 176, 177, 178, 179, 180, 181, 182, 183, 191, 192, 193, 194, 195, 196, 197, 198, 204, 206, 207, 208, 209, 210, 211, 212, 213, 75, 77, 62, 63, 105, 106, 107, 108, 109, 110, 138, 140, 142, 144, 145, 168, 70, 59, 188, 189, 202]
def md (f : Nat) : Ev.Mode := bif inNats f heapFs then .heap else .pure

def E1 : Oracle := ev (E00 md) X 1000 16

def E0B : Oracle := ⟨md, fun _ _ => none,
  fun f args H => bif Nat.beq f 77 then evRmapF E1 1000 rmS args H else none,
  fun _ _ => none⟩

theorem mix : Tryz.prog.follows .mixedOrders = true := by kernel_rfl

theorem E1_ok : OracleOk Tryz.prog E1 := ev_ok mix X X_ok 1000 _ (E00_ok md) 16

theorem E0B_ok : OracleOk Tryz.prog E0B := by
  refine ⟨(fun _ _ _ h => by cases h), fun f args H d H' h => ?_, fun f caps xss h => by cases h⟩
  simp only [E0B] at h
  obtain ⟨hf, h⟩ := cond_or h
  rw [Nat.eq_of_beq_eq_true hf]
  exact rmapF_CH E1 E1_ok (draw_ok E1_ok mix) 1000 rmS_ok args H d H' h

/-- The interpreter for closed runs, at depth n. -/
def EB (n : Nat) : Oracle := ev E0B X 1000 n
theorem EB_ok (n : Nat) : OracleOk Tryz.prog (EB n) := ev_ok mix X X_ok 1000 _ E0B_ok n

end Go.Proofs.YthmlggklnfmidaaGreat
