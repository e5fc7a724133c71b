/- The interpreter of this program: the base oracle and its soundness. -/
import Derived.Test.YtefpgecinlekpaaGreatTabOk
import Derived.Test.YtefpgecinlekpaaGreatSorted
import Derived.Test.YtefpgecinlekpaaGreatPairs
namespace Go.Proofs.YtefpgecinlekpaaGreat
open Go.Ev

def inNats (n : Nat) : List Nat → Bool
  | [] => false
  | x :: xs => bif Nat.beq n x then true else inNats n xs

/-- The functions that are called over the caller's blocks. -/
def heapFs : List Nat := [125, 107, 133, 110, 140, 150, 160, 161, 162, 163, 164, 165, 166, 167, 175, 176, 177, 178, 179, 180, 181, 182, 192, 201, 194, 195, 196, 202, 203, 209, 210, 207, 89, 124, 106, 206, 35, 91]
def md (f : Nat) : Ev.Mode := bif inNats f heapFs then .heap else .pure

def E1 : Oracle := ev (E00 md) X 1000 16

def itCap : List PL → Option (List (List PV))
  | [.ref [.int .i64 (.ofNat n)]] => bif Nat.blt n 1000000 then some (prs n) else none
  | _ => none

def E0 : Oracle := ⟨md, fun _ _ => none,
  fun f args H => bif Nat.beq f 91 then evRmapF E1 1000 rmS args H else none,
  fun f caps => bif Nat.beq f 99 then itCap caps else none⟩

theorem mix : Tryz.prog.follows .mixedOrders = true := by kernel_rfl

theorem E1_ok : OracleOk Tryz.prog E1 := ev_ok mix X X_ok 1000 _ (E00_ok md) 16

theorem E0_ok : OracleOk Tryz.prog E0 := by
  refine ⟨(fun _ _ _ h => by cases h), fun f args H d H' h => ?_, fun f caps xss h => ?_⟩
  · simp only [E0] at h
    obtain ⟨hf, h⟩ := cond_or h
    rw [Nat.eq_of_beq_eq_true hf]
    exact rmapF_CH E1 E1_ok (draw_ok E1_ok mix) 1000 rmS_ok args H d H' h
  · simp only [E0] at h
    obtain ⟨hf, h⟩ := cond_or h
    obtain rfl := Nat.eq_of_beq_eq_true hf
    clear hf
    unfold itCap at h
    split at h
    · rename_i n _
      obtain ⟨hn, rfl⟩ := cond_some h
      refine ⟨pairs_iter n (by simpa using hn), ent_of Tryz.func99 (by kernel_rfl) rfl⟩
    · cases h

/-- The interpreter, at depth n. -/
def EV (n : Nat) : Oracle := ev E0 X 1000 n
theorem EV_ok (n : Nat) : OracleOk Tryz.prog (EV n) := ev_ok mix X X_ok 1000 _ E0_ok n

end Go.Proofs.YtefpgecinlekpaaGreat
