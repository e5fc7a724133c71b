/- The orders of odd are refused: all 256 of them, by the kernel (written by gen_tabsodd.py). -/
import Derived.Test.YtefpgecinlekpaaGreatTabs
namespace Go.Proofs.YtefpgecinlekpaaGreat
open Go.Ev

def oddOf (n : Nat) : PL := .lst [(List.replicate 8 (PL.int .i64 0)).set (n % 8) (.int .i64 (Int.negSucc n))]
def oddChk (E : Oracle) (n : Nat) : Bool := chk (E.pure 39 [.one (.int .u8 (Int.ofNat n))]) (.one (oddOf n))
def valChk (E : Oracle) (i : Nat) (n : Nat) : Bool := chk (E.pure 57 [.one (.lst [(List.replicate 8 (PL.int .i64 0)).set i (.int .i64 (Int.negSucc n))])]) (.one (.bool false))
theorem tabOdd_ok : allN (fun n => oddChk (EV 12) n) 256 = true := by kernel_rfl
theorem tabVal0_ok : allN (fun j => valChk (EV 12) j (Nat.add 0 j)) 8 = true := by kernel_rfl
theorem tabVal1_ok : allN (fun j => valChk (EV 12) j (Nat.add 8 j)) 8 = true := by kernel_rfl
theorem tabVal2_ok : allN (fun j => valChk (EV 12) j (Nat.add 16 j)) 8 = true := by kernel_rfl
theorem tabVal3_ok : allN (fun j => valChk (EV 12) j (Nat.add 24 j)) 8 = true := by kernel_rfl
theorem tabVal4_ok : allN (fun j => valChk (EV 12) j (Nat.add 32 j)) 8 = true := by kernel_rfl
theorem tabVal5_ok : allN (fun j => valChk (EV 12) j (Nat.add 40 j)) 8 = true := by kernel_rfl
theorem tabVal6_ok : allN (fun j => valChk (EV 12) j (Nat.add 48 j)) 8 = true := by kernel_rfl
theorem tabVal7_ok : allN (fun j => valChk (EV 12) j (Nat.add 56 j)) 8 = true := by kernel_rfl
theorem tabVal8_ok : allN (fun j => valChk (EV 12) j (Nat.add 64 j)) 8 = true := by kernel_rfl
theorem tabVal9_ok : allN (fun j => valChk (EV 12) j (Nat.add 72 j)) 8 = true := by kernel_rfl
theorem tabVal10_ok : allN (fun j => valChk (EV 12) j (Nat.add 80 j)) 8 = true := by kernel_rfl
theorem tabVal11_ok : allN (fun j => valChk (EV 12) j (Nat.add 88 j)) 8 = true := by kernel_rfl
theorem tabVal12_ok : allN (fun j => valChk (EV 12) j (Nat.add 96 j)) 8 = true := by kernel_rfl
theorem tabVal13_ok : allN (fun j => valChk (EV 12) j (Nat.add 104 j)) 8 = true := by kernel_rfl
theorem tabVal14_ok : allN (fun j => valChk (EV 12) j (Nat.add 112 j)) 8 = true := by kernel_rfl
theorem tabVal15_ok : allN (fun j => valChk (EV 12) j (Nat.add 120 j)) 8 = true := by kernel_rfl
theorem tabVal16_ok : allN (fun j => valChk (EV 12) j (Nat.add 128 j)) 8 = true := by kernel_rfl
theorem tabVal17_ok : allN (fun j => valChk (EV 12) j (Nat.add 136 j)) 8 = true := by kernel_rfl
theorem tabVal18_ok : allN (fun j => valChk (EV 12) j (Nat.add 144 j)) 8 = true := by kernel_rfl
theorem tabVal19_ok : allN (fun j => valChk (EV 12) j (Nat.add 152 j)) 8 = true := by kernel_rfl
theorem tabVal20_ok : allN (fun j => valChk (EV 12) j (Nat.add 160 j)) 8 = true := by kernel_rfl
theorem tabVal21_ok : allN (fun j => valChk (EV 12) j (Nat.add 168 j)) 8 = true := by kernel_rfl
theorem tabVal22_ok : allN (fun j => valChk (EV 12) j (Nat.add 176 j)) 8 = true := by kernel_rfl
theorem tabVal23_ok : allN (fun j => valChk (EV 12) j (Nat.add 184 j)) 8 = true := by kernel_rfl
theorem tabVal24_ok : allN (fun j => valChk (EV 12) j (Nat.add 192 j)) 8 = true := by kernel_rfl
theorem tabVal25_ok : allN (fun j => valChk (EV 12) j (Nat.add 200 j)) 8 = true := by kernel_rfl
theorem tabVal26_ok : allN (fun j => valChk (EV 12) j (Nat.add 208 j)) 8 = true := by kernel_rfl
theorem tabVal27_ok : allN (fun j => valChk (EV 12) j (Nat.add 216 j)) 8 = true := by kernel_rfl
theorem tabVal28_ok : allN (fun j => valChk (EV 12) j (Nat.add 224 j)) 8 = true := by kernel_rfl
theorem tabVal29_ok : allN (fun j => valChk (EV 12) j (Nat.add 232 j)) 8 = true := by kernel_rfl
theorem tabVal30_ok : allN (fun j => valChk (EV 12) j (Nat.add 240 j)) 8 = true := by kernel_rfl
theorem tabVal31_ok : allN (fun j => valChk (EV 12) j (Nat.add 248 j)) 8 = true := by kernel_rfl
theorem tabVal_all : ∀ k, k < 32 → allN (fun j => valChk (EV 12) j (Nat.add (8 * k) j)) 8 = true
  | 0, _ => tabVal0_ok
  | 1, _ => tabVal1_ok
  | 2, _ => tabVal2_ok
  | 3, _ => tabVal3_ok
  | 4, _ => tabVal4_ok
  | 5, _ => tabVal5_ok
  | 6, _ => tabVal6_ok
  | 7, _ => tabVal7_ok
  | 8, _ => tabVal8_ok
  | 9, _ => tabVal9_ok
  | 10, _ => tabVal10_ok
  | 11, _ => tabVal11_ok
  | 12, _ => tabVal12_ok
  | 13, _ => tabVal13_ok
  | 14, _ => tabVal14_ok
  | 15, _ => tabVal15_ok
  | 16, _ => tabVal16_ok
  | 17, _ => tabVal17_ok
  | 18, _ => tabVal18_ok
  | 19, _ => tabVal19_ok
  | 20, _ => tabVal20_ok
  | 21, _ => tabVal21_ok
  | 22, _ => tabVal22_ok
  | 23, _ => tabVal23_ok
  | 24, _ => tabVal24_ok
  | 25, _ => tabVal25_ok
  | 26, _ => tabVal26_ok
  | 27, _ => tabVal27_ok
  | 28, _ => tabVal28_ok
  | 29, _ => tabVal29_ok
  | 30, _ => tabVal30_ok
  | 31, _ => tabVal31_ok
  | k + 32, h => by omega

theorem odd_ev {n : Nat} (h : n < 256) : (EV 12).pure 39 [.one (.int .u8 (Int.ofNat n))] = some (.one (oddOf n)) := chk_spec (allN_spec tabOdd_ok n h)
theorem val_ev {n : Nat} (h : n < 256) : (EV 12).pure 57 [.one (oddOf n)] = some (.one (.bool false)) := by
  have h1 := chk_spec (allN_spec (tabVal_all (n / 8) (by omega)) (n % 8) (Nat.mod_lt _ (by decide)))
  rw [show Nat.add (8 * (n / 8)) (n % 8) = n from Nat.div_add_mod n 8] at h1
  exact h1

theorem std_nil : (EV 12).pure 18 [.one .nilS, .one .nilS, .one .nilS, .one .nilS] = some (.one (.bool true)) := by kernel_rfl

end Go.Proofs.YtefpgecinlekpaaGreat
