/- Finite tables, checked by the kernel: comparisons, sums, signs and multiples of small terms. -/
import Derived.Test.YthmlggklnfmidaaGreatBase
namespace Go.Proofs.YthmlggklnfmidaaGreat
open Go.Ev

def allN (p : Nat → Bool) : Nat → Bool
  | 0 => true
  | n + 1 => p n && allN p n

theorem allN_spec {p : Nat → Bool} : ∀ {n : Nat}, allN p n = true → ∀ i, i < n → p i = true
  | 0, _, i, hi => by omega
  | n + 1, h, i, hi => by
    simp only [allN, Bool.and_eq_true] at h
    by_cases e : i = n
    · subst e; exact h.1
    · exact allN_spec h.2 i (by omega)

/-- The number z of a table's place. -/
def zOf (off i : Nat) : Int := (i : Int) - off

def magOf : Nat → PL
  | 0 => .nilS
  | n + 1 => .lst [[.int .u32 ((n + 1 : Nat) : Int)]]
/-- A small whole number. -/
def ratOf (z : Int) : List PL := match z with
  | .ofNat n => [.bool false, magOf n, .bool false, .lst [[.int .u32 1]]]
  | .negSucc n => [.bool true, magOf (n + 1), .bool false, .lst [[.int .u32 1]]]
def intsOf (m : Nat × Nat × Nat) : List PL := [.int .i64 m.1, .int .i64 m.2.1, .int .i64 m.2.2, .int .i64 0, .int .i64 0, .int .i64 0, .int .i64 0, .int .i64 0]
def termOf (z : Int) (m : Nat × Nat × Nat) : List PL := ratOf z ++ intsOf m

def chk (o : Option PV) (v : PV) : Bool := match o with
  | some r => eqPV r v
  | none => false
theorem chk_spec {o : Option PV} {v : PV} (h : chk o v = true) : o = some v := by
  unfold chk at h
  split at h
  · rw [eqPV_eq _ _ h]
  · cases h

def cmpN (a b : Nat) (r : Int) : Int := bif Nat.blt a b then -1 else bif Nat.blt b a then 1 else r
def cmpM (a b : Nat × Nat × Nat) : Int := cmpN a.1 b.1 (cmpN a.2.1 b.2.1 (cmpN a.2.2 b.2.2 0))

def allM (p : Nat × Nat × Nat → Bool) : Bool := allN (fun a => allN (fun b => allN (fun c => bif Nat.ble (a + b + c) 4 then p (a, b, c) else true) 5) 5) 5
theorem allM_spec {p : Nat × Nat × Nat → Bool} (h : allM p = true) (m : Nat × Nat × Nat) (hm : m.1 + m.2.1 + m.2.2 ≤ 4) : p m = true := by
  obtain ⟨a, b, c⟩ := m
  have := allN_spec (allN_spec (allN_spec h a (by simp at hm; omega)) b (by simp at hm; omega)) c (by simp at hm; omega)
  simp only at this hm
  rw [show Nat.ble (a + b + c) 4 = true by rw [Nat.ble_eq]; exact hm] at this
  exact this

def sgn : Int → Int
  | .ofNat 0 => 0
  | .ofNat _ => 1
  | .negSucc _ => -1

def tabCmp (E : Oracle) : Bool := allM fun a => allM fun b => chk (E.pure 24 [.agg (intsOf a), .agg (intsOf b)]) (.one (.int .i64 (cmpM a b)))
def tabSgn (E : Oracle) : Bool := allN (fun i => chk (E.pure 26 [.agg (ratOf (zOf 15 i))]) (.one (.int .i64 (sgn (zOf 15 i))))) 31
def tabAdd (E : Oracle) : Bool := allN (fun i => allN (fun j => chk (E.pure 25 [.agg (ratOf (zOf 12 i)), .agg (ratOf (zOf 3 j))]) (.agg (ratOf (zOf 12 i + zOf 3 j)))) 7) 25
def wholeOf (z : Int) : List PL := match z with
  | .ofNat 0 => [.bool false, .lst [], .bool false, .lst [[.int .u32 1]]]
  | z => ratOf z
def tabWhole (E : Oracle) : Bool := allN (fun j => chk (E.pure 23 [.one (.int .i64 (zOf 3 j))]) (.agg (wholeOf (zOf 3 j)))) 7
def tabAbs (E : Oracle) : Bool := allN (fun j => chk (E.pure 50 [.one (.int .i8 (zOf 128 j))]) (.one (.int .i64 (zOf 128 j).natAbs))) 256
def scaled (z : Int) (m : Nat × Nat × Nat) : PL := match z with
  | .ofNat 0 => .nilS
  | z => .lst [termOf z m]
def tabScale (E : Oracle) : Bool := allN (fun j => allM fun m => chk (E.pure 46 [.agg (wholeOf (zOf 3 j)), .one (.lst [termOf 1 m])]) (.one (scaled (zOf 3 j) m))) 7

end Go.Proofs.YthmlggklnfmidaaGreat
