/- Polynomials as lists of terms: plain facts, no program in sight. -/
import Derived.Test.YtidginchkjhobaaGreatNum
namespace Go.Num

abbrev Tm := Int × List Nat

/-- The lexicographic comparison. -/
def cmpL : List Nat → List Nat → Int
  | a :: as, b :: bs => if a < b then .negSucc 0 else if b < a then .ofNat 1 else cmpL as bs
  | _, _ => .ofNat 0

/-- The product of monomials. -/
def addM (m n : List Nat) : List Nat := List.zipWith (· + ·) m n

theorem cmpL_self : ∀ m, cmpL m m = .ofNat 0
  | [] => rfl
  | a :: m => by simp only [cmpL, Nat.lt_irrefl, if_false]; exact cmpL_self m
theorem cmpL_zero : ∀ {m n : List Nat}, m.length = n.length → cmpL m n = .ofNat 0 → m = n
  | [], [], _, _ => rfl
  | [], _ :: _, h, _ => by simp at h
  | _ :: _, [], h, _ => by simp at h
  | a :: m, b :: n, h, hc => by
    simp only [cmpL] at hc
    split at hc
    · cases hc
    · split at hc
      · simp at hc
      · rw [cmpL_zero (by simpa using h) hc, show a = b by omega]
theorem cmpL_cases : ∀ (m n : List Nat), cmpL m n = .ofNat 1 ∨ cmpL m n = .negSucc 0 ∨ cmpL m n = .ofNat 0
  | [], [] => .inr (.inr rfl)
  | [], _ :: _ => .inr (.inr rfl)
  | _ :: _, [] => .inr (.inr rfl)
  | a :: m, b :: n => by
    simp only [cmpL]
    split
    · exact .inr (.inl rfl)
    · split
      · exact .inl rfl
      · exact cmpL_cases m n

/-- A sum, term by term. -/
def addT : List Tm → List Tm → List Tm
  | [], us => us
  | ts, [] => ts
  | t :: ts, u :: us =>
    if cmpL t.2 u.2 = .ofNat 1 then t :: addT ts (u :: us)
    else if cmpL t.2 u.2 = .negSucc 0 then u :: addT (t :: ts) us
    else if t.1 + u.1 = 0 then addT ts us else (t.1 + u.1, t.2) :: addT ts us
termination_by ts us => ts.length + us.length

theorem addT_nil_left (us : List Tm) : addT [] us = us := by unfold addT; rfl
theorem addT_nil_right (ts : List Tm) : addT ts [] = ts := by cases ts <;> (unfold addT; rfl)
theorem addT_cons (t u : Tm) (ts us : List Tm) : addT (t :: ts) (u :: us) = if cmpL t.2 u.2 = .ofNat 1 then t :: addT ts (u :: us)
    else if cmpL t.2 u.2 = .negSucc 0 then u :: addT (t :: ts) us
    else if t.1 + u.1 = 0 then addT ts us else (t.1 + u.1, t.2) :: addT ts us := by
  rw [addT]

/-- What a polynomial makes of a function of the monomials. -/
def pair : List Tm → (List Nat → Int) → Int
  | [], _ => 0
  | t :: ts, φ => t.1 * φ t.2 + pair ts φ

def W8 (ts : List Tm) : Prop := ∀ t ∈ ts, t.2.length = 8

theorem pair_add (φ : List Nat → Int) : ∀ (n : Nat) (ts us : List Tm), ts.length + us.length ≤ n → W8 ts → W8 us → pair (addT ts us) φ = pair ts φ + pair us φ
  | _, [], us, _, _, _ => by rw [addT_nil_left]; simp [pair]
  | _, t :: ts, [], _, _, _ => by rw [addT_nil_right]; simp [pair]
  | 0, t :: ts, u :: us, h, _, _ => by simp at h
  | n + 1, t :: ts, u :: us, h, h1, h2 => by
    have k1 : W8 ts := fun x hx => h1 x (List.mem_cons_of_mem _ hx)
    have k2 : W8 us := fun x hx => h2 x (List.mem_cons_of_mem _ hx)
    simp only [List.length_cons] at h
    rw [addT_cons]
    split
    · simp only [pair, pair_add φ n ts (u :: us) (by simp; omega) k1 h2]; omega
    · split
      · simp only [pair, pair_add φ n (t :: ts) us (by simp; omega) h1 k2]; omega
      · rename_i a b
        have e : cmpL t.2 u.2 = .ofNat 0 := by
          rcases cmpL_cases t.2 u.2 with q | q | q
          · exact absurd q a
          · exact absurd q b
          · exact q
        have e2 := cmpL_zero (by rw [h1 t (by simp), h2 u (by simp)]) e
        have ih := pair_add φ n ts us (by omega) k1 k2
        split
        · rename_i z
          simp only [pair, ih]
          rw [← e2]
          have : t.1 * φ t.2 + u.1 * φ t.2 = 0 := by rw [← Int.add_mul, z, Int.zero_mul]
          omega
        · simp only [pair, ih]
          rw [← e2, Int.add_mul]; omega

/-- A term times a polynomial; a product. -/
def timesT (z : Int) (m : List Nat) (ts : List Tm) : List Tm := ts.map fun t => (z * t.1, addM m t.2)
theorem pair_times (z : Int) (m : List Nat) (φ : List Nat → Int) : ∀ ts, pair (timesT z m ts) φ = z * pair ts fun k => φ (addM m k)
  | [] => by simp [timesT, pair]
  | t :: ts => by
    have ih := pair_times z m φ ts
    unfold timesT at ih
    simp only [timesT, List.map_cons, pair, ih]
    rw [Int.mul_add, Int.mul_assoc]
/-- The reference's product. -/
def mulT (acc : List Tm) : List Tm → List Tm → List Tm
  | [], _ => acc
  | t :: ts, us => mulT (addT acc (timesT t.1 t.2 us)) ts us

theorem pair_congr {φ ψ : List Nat → Int} : ∀ {ts : List Tm}, (∀ t ∈ ts, φ t.2 = ψ t.2) → pair ts φ = pair ts ψ
  | [], _ => rfl
  | t :: ts, h => by
    simp only [pair]
    rw [h t (by simp), pair_congr fun x hx => h x (List.mem_cons_of_mem _ hx)]
theorem pair_sum (φ ψ : List Nat → Int) : ∀ ts, (pair ts fun m => φ m + ψ m) = pair ts φ + pair ts ψ
  | [] => rfl
  | t :: ts => by simp only [pair, pair_sum φ ψ ts]; rw [Int.mul_add]; omega
theorem pair_scale (z : Int) (φ : List Nat → Int) : ∀ ts, (pair ts fun m => z * φ m) = z * pair ts φ
  | [] => by simp [pair]
  | t :: ts => by simp only [pair, pair_scale z φ ts]; rw [Int.mul_add]; grind
/-- Sums may be exchanged. -/
theorem pair_swap (ψ : List Nat → List Nat → Int) : ∀ (ts us : List Tm), (pair ts fun m => pair us fun k => ψ m k) = pair us fun k => pair ts fun m => ψ m k
  | [], us => by
    simp only [pair]
    induction us with
    | nil => rfl
    | cons u us ih => simp only [pair, ← ih]; simp
  | t :: ts, us => by
    simp only [pair, pair_swap ψ ts us]
    rw [← pair_scale, ← pair_sum]

/-- Sorted, with coefficients other than 0. -/
def Dec : List Tm → Prop
  | [] => True
  | [t] => t.1 ≠ 0
  | t :: u :: ts => t.1 ≠ 0 ∧ cmpL t.2 u.2 = .ofNat 1 ∧ Dec (u :: ts)

end Go.Num
