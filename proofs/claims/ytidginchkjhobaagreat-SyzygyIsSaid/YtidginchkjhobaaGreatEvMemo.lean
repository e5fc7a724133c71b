/- Results that are proved once: an oracle that knows some calls, and a table without some functions. -/
import Derived.Test.YtidginchkjhobaaGreatEvRmapF
namespace Go.Ev

def eqV : PV → PV → Bool
  | .tup a, .tup b => eqLs eqPV a b
  | a, b => eqPV a b

theorem eqV_eq (a b : PV) (h : eqV a b = true) : a = b := by
  unfold eqV at h
  split at h
  · rw [eqLs_eq eqPV_eq _ _ h]
  · exact eqPV_eq _ _ h

def isV (o : Option PV) (v : PV) : Bool := match o with
  | some r => eqV r v
  | none => false
theorem isV_eq {o : Option PV} {v : PV} (h : isV o v = true) : o = some v := by
  unfold isV at h
  split at h
  · rw [eqV_eq _ _ h]
  · cases h

abbrev Memo := List (Nat × List PV × PV)

def memoP (f : Nat) (args : List PV) : Memo → Option PV
  | [] => none
  | (g, as, r) :: m => bif Nat.beq f g && eqLs eqPV as args then some r else memoP f args m

theorem memoP_mem {f : Nat} {args : List PV} {r : PV} : ∀ {M : Memo}, memoP f args M = some r → (f, args, r) ∈ M
  | [], h => by simp [memoP] at h
  | (g, as, q) :: m, h => by
    simp only [memoP] at h
    cases hb : (Nat.beq f g && eqLs eqPV as args) with
    | true =>
      rw [hb, cond_true, Option.some.injEq] at h
      rw [Bool.and_eq_true] at hb
      rw [Nat.eq_of_beq_eq_true hb.1, eqLs_eq eqPV_eq _ _ hb.2, h]
      exact List.mem_cons_self ..
    | false =>
      rw [hb, cond_false] at h
      exact List.mem_cons_of_mem _ (memoP_mem h)

/-- Each entry is what some sound oracle answers. -/
def MemoOk (P : Program) (M : Memo) : Prop := ∀ e ∈ M, ∃ E : Oracle, OracleOk P E ∧ E.pure e.1 e.2.1 = some e.2.2

theorem MemoOk.nil {P : Program} : MemoOk P [] := fun _ h => by cases h
theorem MemoOk.cons {P : Program} {f : Nat} {as : List PV} {r : PV} {M : Memo} {E : Oracle} (hE : OracleOk P E) (h : E.pure f as = some r) (hM : MemoOk P M) : MemoOk P ((f, as, r) :: M) := by
  intro e he
  rcases List.mem_cons.1 he with rfl | he
  · exact ⟨E, hE, h⟩
  · exact hM e he

def withMemo (E : Oracle) (M : Memo) : Oracle := ⟨E.mode, fun f args => memoP f args M, E.heap, E.iter⟩

theorem withMemo_ok {P : Program} {E : Oracle} {M : Memo} (hE : OracleOk P E) (hM : MemoOk P M) : OracleOk P (withMemo E M) := by
  refine ⟨fun f ps r h => ?_, hE.heap, hE.iter⟩
  obtain ⟨E', hE', h'⟩ := hM _ (memoP_mem h)
  exact hE'.pure f ps r h'

def inN (n : Nat) : List Nat → Bool
  | [] => false
  | x :: xs => bif Nat.beq n x then true else inN n xs

def without (fs : List Nat) (X : Nat → Option XFunc) : Nat → Option XFunc := fun f => bif inN f fs then none else X f

theorem without_ok {P : Program} {X : Nat → Option XFunc} (fs : List Nat) (hX : ∀ f xf, X f = some xf → FunOk P f xf) : ∀ f xf, without fs X f = some xf → FunOk P f xf := by
  intro f xf h
  unfold without at h
  cases hb : inN f fs with
  | true => rw [hb, cond_true] at h; cases h
  | false => rw [hb, cond_false] at h; exact hX f xf h

end Go.Ev
