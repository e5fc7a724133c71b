/- The interpreter over a table of functions is sound, at every depth. -/
import Derived.Test.YtidginchkjhobaaGreatEvDraw
namespace Go.Ev
open Go.RowKit

theorem lift_ok {P : Program} (hmix : P.follows .mixedOrders = true) (X : Nat → Option XFunc) (hX : ∀ f xf, X f = some xf → FunOk P f xf) (K : Nat) (E : Oracle) (hE : OracleOk P E) : OracleOk P (lift X K E) := by
  have hD := draw_ok hE hmix
  refine ⟨fun f ps r h => ?_, fun f args H d H' h => ?_, fun f caps xss h => hE.iter f caps xss h⟩
  · simp only [lift] at h
    cases hx : X f with
    | none => rw [hx] at h; exact hE.pure f ps r h
    | some xf => rw [hx] at h; exact pureF_CC E hE hD K (hX f xf hx) ps r h
  · simp only [lift] at h
    cases hx : X f with
    | none => rw [hx] at h; exact hE.heap f args H d H' h
    | some xf => rw [hx] at h; exact heapF_CH E hE hD K (hX f xf hx) args H d H' h

theorem ev_ok {P : Program} (hmix : P.follows .mixedOrders = true) (X : Nat → Option XFunc) (hX : ∀ f xf, X f = some xf → FunOk P f xf) (K : Nat) (E0 : Oracle) (hE : OracleOk P E0) : ∀ n, OracleOk P (ev E0 X K n)
  | 0 => hE
  | n + 1 => lift_ok hmix X hX K _ (ev_ok hmix X hX K E0 hE n)

/-- The oracle that knows nothing. -/
def E00 (md : Nat → Mode) : Oracle := ⟨md, fun _ _ => none, fun _ _ _ => none, fun _ _ => none⟩

theorem E00_ok {P : Program} (md : Nat → Mode) : OracleOk P (E00 md) :=
  ⟨(fun _ _ _ h => by cases h), (fun _ _ _ _ _ h => by cases h), (fun _ _ _ h => by cases h)⟩

end Go.Ev
