/- Arithmetic of the interpreter on natural numbers, in the form that simp uses. -/
import Derived.Test.YtidginchkjhobaaGreatEvRun
namespace Go.Ev

theorem wrap_i64 {a : Nat} (h : a < 9223372036854775808) : wrapF .i64 (.ofNat a) = .ofNat a := wrap_nat h
theorem wrap_u64 (a : Nat) : wrapF .u64 (.ofNat a) = .ofNat (a % 18446744073709551616) := rfl
theorem wrap_u32 (a : Nat) : wrapF .u32 (.ofNat a) = .ofNat (a % 4294967296) := rfl
theorem sub_nn {a b : Nat} (h : b ≤ a) : (Int.ofNat a - Int.ofNat b) = Int.ofNat (a - b) := by simp only [Int.ofNat_eq_natCast]; omega
theorem sub_i64 {a b : Nat} (h : b ≤ a) (h2 : a < 9223372036854775808) : wrapF .i64 (.ofNat a - .ofNat b) = .ofNat (a - b) := by
  rw [sub_nn h]; exact wrap_nat (by omega)
theorem sub_neg {a b : Nat} (h : a < b) : (Int.ofNat a - Int.ofNat b) = Int.negSucc (b - a - 1) := by
  simp only [Int.ofNat_eq_natCast, Int.negSucc_eq]; omega
theorem sub_u64 {a b : Nat} (h : b ≤ 18446744073709551616) : wrapF .u64 (.ofNat a - .ofNat b) = .ofNat ((a + (18446744073709551616 - b)) % 18446744073709551616) := by
  by_cases hb : b ≤ a
  · rw [sub_nn hb, wrap_u64]; congr 1; omega
  · rw [sub_neg (by omega)]
    show signF .u64 (resF .u64 (.negSucc (b - a - 1))) = _
    have : resF .u64 (.negSucc (b - a - 1)) = (a + (18446744073709551616 - b)) % 18446744073709551616 := by
      simp only [resF, kmod]; omega
    rw [this]; rfl

theorem blt_dec (a b : Nat) : Nat.blt a b = decide (a < b) := by
  by_cases h : a < b
  · rw [blt_t h]; simp [h]
  · rw [blt_f (by omega)]; simp [h]
theorem ble_dec (a b : Nat) : Nat.ble a b = decide (a ≤ b) := by
  by_cases h : a ≤ b
  · rw [ble_t h]; simp [h]
  · rw [ble_f (by omega)]; simp [h]
theorem beq_dec (a b : Nat) : Nat.beq a b = decide (a = b) := by
  by_cases h : a = b
  · rw [beq_t h]; simp [h]
  · rw [beq_f h]; simp [h]
theorem ltF_nn (a b : Nat) : ltF (.ofNat a) (.ofNat b) = decide (a < b) := blt_dec a b
theorem eqF_nn (a b : Nat) : eqF (.ofNat a) (.ofNat b) = decide (a = b) := beq_dec a b
theorem leF_nn (a b : Nat) : leF (.ofNat a) (.ofNat b) = decide (a ≤ b) := by
  unfold leF; rw [ltF_nn]
  by_cases h : a ≤ b
  · simp [h, Nat.not_lt.2 h]
  · simp [h, Nat.lt_of_not_le h]

/-- One less, which may be -1. -/
def pI : Nat → Int
  | 0 => .negSucc 0
  | n + 1 => .ofNat n
theorem pred_i64 {n : Nat} (h : n < 9223372036854775808) : wrapF .i64 (.ofNat n - .ofNat 1) = pI n := by
  cases n with
  | zero => rfl
  | succ n => exact sub_i64 (by omega) h

/-- Unconditional rules. -/
theorem EVN : (∀ a b, ltF (.ofNat a) (.ofNat b) = decide (a < b)) ∧ (∀ a b, ltF (.ofNat a) (.negSucc b) = false) ∧ (∀ a b, ltF (.negSucc a) (.ofNat b) = true) ∧
    (∀ a b, leF (.ofNat a) (.ofNat b) = decide (a ≤ b)) ∧ (∀ a b, leF (.ofNat a) (.negSucc b) = false) ∧ (∀ a b, leF (.negSucc a) (.ofNat b) = true) ∧
    (∀ a b, eqF (.ofNat a) (.ofNat b) = decide (a = b)) ∧ (∀ a b, eqF (.ofNat a) (.negSucc b) = false) ∧ (∀ a b, eqF (.negSucc a) (.ofNat b) = false) ∧ (∀ a b, eqF (.negSucc a) (.negSucc b) = decide (a = b)) ∧
    (∀ a b, Nat.blt a b = decide (a < b)) ∧ (∀ a b, Nat.ble a b = decide (a ≤ b)) ∧ (∀ a b, Nat.beq a b = decide (a = b)) ∧
    (∀ a b : Nat, (Int.ofNat a + Int.ofNat b) = Int.ofNat (a + b)) ∧ (∀ a b : Nat, (Int.ofNat a * Int.ofNat b) = Int.ofNat (a * b)) ∧
    (∀ a, wrapF .u64 (.ofNat a) = .ofNat (a % 18446744073709551616)) ∧ (∀ a, wrapF .u32 (.ofNat a) = .ofNat (a % 4294967296)) ∧
    (∀ a, binShr .u64 (.ofNat a) (.ofNat 32) = some (.p (.int .u64 (.ofNat (a / 4294967296))))) ∧ (∀ a, binShr .u64 (.ofNat a) (.ofNat 63) = some (.p (.int .u64 (.ofNat (a / 9223372036854775808))))) ∧
    (∀ k a b, binQuo k (.ofNat a) (.ofNat (b + 1)) = some (.p (.int k (wrapF k (.ofNat (a / (b + 1))))))) ∧ (∀ k a b, binRem k (.ofNat a) (.ofNat (b + 1)) = some (.p (.int k (.ofNat (a % (b + 1)))))) ∧
    (decide True = true) ∧ (decide False = false) ∧ ((!decide True) = false) ∧ ((!decide False) = true) ∧ ((false = true) = False) := by
  refine ⟨ltF_nn, fun _ _ => rfl, fun _ _ => rfl, leF_nn, fun _ _ => rfl, fun _ _ => rfl, eqF_nn, fun _ _ => rfl, fun _ _ => rfl, fun a b => beq_dec a b, blt_dec, ble_dec, beq_dec, fun _ _ => rfl, fun _ _ => rfl, fun _ => rfl, fun _ => rfl, fun _ => rfl, fun _ => rfl, fun _ _ _ => rfl, fun _ _ _ => rfl, rfl, rfl, rfl, rfl, by simp⟩

end Go.Ev
