/- The fast arithmetic of the interpreter is the model's. -/
import Derived.Test.YtidginchkjhobaaGreatEvRep
namespace Go.Ev

theorem keq_iff (a b : IntKind) : keq a b = true ↔ a = b := by cases a <;> cases b <;> decide

theorem keq_self (a : IntKind) : keq a a = true := (keq_iff a a).2 rfl

theorem eqF_eq (a b : Int) : eqF a b = (a == b) := by
  rw [Bool.eq_iff_iff, beq_iff_eq]
  cases a <;> cases b <;> simp [eqF] <;> omega

theorem ltF_eq (a b : Int) : ltF a b = decide (a < b) := by
  rw [Bool.eq_iff_iff, decide_eq_true_iff]
  cases a <;> cases b <;> simp [ltF, Nat.blt, Nat.ble_eq] <;> omega

theorem leF_eq (a b : Int) : leF a b = decide (a ≤ b) := by
  rw [leF, ltF_eq, Bool.eq_iff_iff]; simp

theorem kbits_eq (k : IntKind) : kbits k = k.bits := by cases k <;> rfl
theorem kmod_eq (k : IntKind) : kmod k = 2 ^ k.bits := by cases k <;> rfl
theorem ksigned_eq (k : IntKind) : ksigned k = k.signed := by cases k <;> rfl
theorem kmod_half (k : IntKind) : kmod k / 2 = 2 ^ (k.bits - 1) := by cases k <;> rfl
theorem kmod_pos (k : IntKind) : 0 < kmod k := by cases k <;> decide

theorem resF_lt (k : IntKind) (n : Int) : resF k n < kmod k := by
  have := kmod_pos k
  cases n with
  | ofNat m => exact Nat.mod_lt _ this
  | negSucc m => simp only [resF]; have := Nat.mod_lt m this; omega

theorem resF_eq (k : IntKind) (n : Int) : (resF k n : Int) = n % (2 ^ k.bits : Int) := by
  have hp := kmod_pos k
  have hk : (2 ^ k.bits : Int) = (kmod k : Int) := by rw [kmod_eq]; simp
  rw [hk]
  cases n with
  | ofNat m => simp [resF]
  | negSucc m =>
    simp only [resF]
    have h1 := Nat.mod_lt m hp
    have h2 := Nat.div_add_mod m (kmod k)
    generalize kmod k = M at *
    rw [Int.negSucc_emod _ (by omega)]
    have h3 : (m : Int) % (M : Int) = ((m % M : Nat) : Int) := by simp
    rw [h3]
    omega

theorem signF_eq (k : IntKind) (r : Nat) (h : r < kmod k) : signF k r = k.wrap r := by
  have hm : ((r : Int) % (2 ^ k.bits : Int)) = r := by
    have hk : (2 ^ k.bits : Int) = (kmod k : Int) := by rw [kmod_eq]; simp
    rw [hk]; exact Int.emod_eq_of_lt (by omega) (by omega)
  unfold signF IntKind.wrap
  rw [hm, ksigned_eq, kmod_half]
  have hk : ((2 : Int) ^ k.bits) = (kmod k : Int) := by rw [kmod_eq]; simp
  have hh : ((2 : Int) ^ (k.bits - 1)) = ((2 ^ (k.bits - 1) : Nat) : Int) := by simp
  simp only [hk, hh]
  cases hs : k.signed
  · simp
  · by_cases hb : 2 ^ (k.bits - 1) ≤ r
    · have hb' : Nat.ble (2 ^ (k.bits - 1)) r = true := by rw [Nat.ble_eq]; exact hb
      have hb2 : ((r : Int) ≥ ((2 ^ (k.bits - 1) : Nat) : Int)) := by omega
      rw [hb', if_pos (by simp only [Bool.true_and]; exact decide_eq_true hb2)]
      show Int.negSucc (kmod k - r - 1) = _
      rw [Int.negSucc_eq]
      omega
    · have hb' : Nat.ble (2 ^ (k.bits - 1)) r = false := by
        cases hx : Nat.ble (2 ^ (k.bits - 1)) r
        · rfl
        · rw [Nat.ble_eq] at hx; exact absurd hx hb
      have hb2 : ¬ ((r : Int) ≥ ((2 ^ (k.bits - 1) : Nat) : Int)) := by omega
      rw [hb', if_neg (by simp only [Bool.true_and, decide_eq_true_iff]; exact hb2)]
      rfl

theorem wrap_emod (k : IntKind) (n : Int) : k.wrap (n % (2 ^ k.bits : Int)) = k.wrap n := by
  unfold IntKind.wrap; simp

theorem wrapF_eq (k : IntKind) (n : Int) : wrapF k n = k.wrap n := by
  rw [wrapF, signF_eq k _ (resF_lt k n), resF_eq, wrap_emod]

theorem shrF_eq (a : Int) (n : Nat) : shrF a n = a.fdiv (2 ^ n) := by
  have h2 : ((2 : Int) ^ n) = ((2 ^ n : Nat) : Int) := by simp
  have hp : 0 < 2 ^ n := Nat.pow_pos (by decide)
  rw [h2]
  cases a with
  | ofNat m => simp only [shrF]; cases m <;> simp [Int.fdiv]
  | negSucc m =>
    simp only [shrF]
    generalize 2 ^ n = M at *
    obtain ⟨q, rfl⟩ : ∃ q, M = q + 1 := ⟨M - 1, by omega⟩
    rfl

theorem bv_toNat (k : IntKind) (n : Int) : (BitVec.ofInt k.bits n).toNat = resF k n := by
  have h := resF_eq k n
  rw [BitVec.toNat_ofInt]
  rw [show ((2 ^ k.bits : Nat) : Int) = (2 ^ k.bits : Int) by simp, ← h]
  simp

theorem and_eq (k : IntKind) (a b : Int) : signF k (Nat.land (resF k a) (resF k b)) = k.wrap ((BitVec.ofInt k.bits a &&& BitVec.ofInt k.bits b).toNat : Int) := by
  have e : (BitVec.ofInt k.bits a &&& BitVec.ofInt k.bits b).toNat = Nat.land (resF k a) (resF k b) := by rw [BitVec.toNat_and, bv_toNat, bv_toNat]; rfl
  rw [← e, signF_eq _ _ (by rw [kmod_eq]; exact BitVec.isLt _)]
theorem or_eq (k : IntKind) (a b : Int) : signF k (Nat.lor (resF k a) (resF k b)) = k.wrap ((BitVec.ofInt k.bits a ||| BitVec.ofInt k.bits b).toNat : Int) := by
  have e : (BitVec.ofInt k.bits a ||| BitVec.ofInt k.bits b).toNat = Nat.lor (resF k a) (resF k b) := by rw [BitVec.toNat_or, bv_toNat, bv_toNat]; rfl
  rw [← e, signF_eq _ _ (by rw [kmod_eq]; exact BitVec.isLt _)]
theorem xor_eq (k : IntKind) (a b : Int) : signF k (Nat.xor (resF k a) (resF k b)) = k.wrap ((BitVec.ofInt k.bits a ^^^ BitVec.ofInt k.bits b).toNat : Int) := by
  have e : (BitVec.ofInt k.bits a ^^^ BitVec.ofInt k.bits b).toNat = Nat.xor (resF k a) (resF k b) := by rw [BitVec.toNat_xor, bv_toNat, bv_toNat]; rfl
  rw [← e, signF_eq _ _ (by rw [kmod_eq]; exact BitVec.isLt _)]
theorem not_toNat (k : IntKind) (b : Int) : (~~~ BitVec.ofInt k.bits b).toNat = Nat.xor (kmod k - 1) (resF k b) := by
  rw [← bv_toNat, kmod_eq]
  have : (2 ^ k.bits - 1 : Nat) = (BitVec.allOnes k.bits).toNat := by simp
  rw [this]
  show _ = ((BitVec.allOnes k.bits).toNat ^^^ (BitVec.ofInt k.bits b).toNat)
  rw [← BitVec.toNat_xor, BitVec.allOnes_xor]
theorem andNot_eq (k : IntKind) (a b : Int) : signF k (Nat.land (resF k a) (Nat.xor (kmod k - 1) (resF k b))) = k.wrap ((BitVec.ofInt k.bits a &&& ~~~ BitVec.ofInt k.bits b).toNat : Int) := by
  have e : (BitVec.ofInt k.bits a &&& ~~~ BitVec.ofInt k.bits b).toNat = Nat.land (resF k a) (Nat.xor (kmod k - 1) (resF k b)) := by rw [BitVec.toNat_and, bv_toNat, not_toNat]; rfl
  rw [← e, signF_eq _ _ (by rw [kmod_eq]; exact BitVec.isLt _)]
theorem unxor_eq (k : IntKind) (n : Int) : signF k (Nat.xor (kmod k - 1) (resF k n)) = k.wrap ((BitVec.ofInt k.bits (if k.signed then -1 else k.max) ^^^ BitVec.ofInt k.bits n).toNat : Int) := by
  have e : resF k (if k.signed then -1 else k.max) = kmod k - 1 := by cases k <;> rfl
  rw [← e, xor_eq]

end Go.Ev
