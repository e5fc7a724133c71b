/- What a function answers, once the interpreter is deep enough. -/
import Derived.Test.YtidginchkjhobaaGreatEvLe
import Derived.Test.YtidginchkjhobaaGreatEvNat
import Derived.Test.YtidginchkjhobaaGreatEvRun
namespace Go.Ev

/-- A base of the interpreter: an oracle and a table that do not speak of one function both. -/
structure Base where
  E0 : Oracle
  X : Nat → Option XFunc
  le : ∀ K, OLe E0 (lift X K E0)

def Base.E (B : Base) (K n : Nat) : Oracle := ev B.E0 B.X K n

/-- From some number of rounds and some depth on. -/
def Evt (B : Base) (p : Oracle → Nat → Prop) : Prop := ∃ N, ∀ K n, N ≤ K → N ≤ n → p (B.E K n) K

section
variable {B : Base} {p q : Oracle → Nat → Prop}
theorem Evt.and (h : Evt B p) (k : Evt B q) : Evt B fun E K => p E K ∧ q E K := by
  obtain ⟨N, hN⟩ := h
  obtain ⟨M, hM⟩ := k
  exact ⟨max N M, fun K n h1 h2 => ⟨hN K n (by omega) (by omega), hM K n (by omega) (by omega)⟩⟩
theorem Evt.mono (h : Evt B p) (k : ∀ E K, p E K → q E K) : Evt B q := by
  obtain ⟨N, hN⟩ := h
  exact ⟨N, fun K n h1 h2 => k _ _ (hN K n h1 h2)⟩
theorem Evt.of (k : ∀ K n, p (B.E K n) K) : Evt B p := ⟨0, fun K n _ _ => k K n⟩
theorem Evt.ge (m : Nat) : Evt B fun _ K => m ≤ K := ⟨m, fun _ _ h _ => h⟩
theorem Evt.all {p : Nat → Oracle → Nat → Prop} : ∀ (n : Nat), (∀ i, i < n → Evt B (p i)) → Evt B fun E K => ∀ i, i < n → p i E K
  | 0, _ => Evt.of fun _ _ i h => by omega
  | n + 1, h => by
    refine ((Evt.all n fun i hi => h i (by omega)).and (h n (by omega))).mono fun E K ⟨h1, h2⟩ i hi => ?_
    by_cases e : i = n
    · subst e; exact h2
    · exact h1 i (by omega)

/-- The answer of a function. -/
def Ret (B : Base) (f : Nat) (a : List PV) (r : PV) : Prop := ∃ K n, (B.E K n).pure f a = some r
def RetH (B : Base) (f : Nat) (a : List DV) (H : List Blk) (d : DV) (H' : List Blk) : Prop := ∃ K n, (B.E K n).heap f a H = some (d, H')

variable {f : Nat} {a : List PV} {r : PV} {H H' : List Blk} {d : DV} {ad : List DV} {xf : XFunc}
theorem Base.E_le {K K' n m : Nat} (h : K ≤ K') (k : n ≤ m) : OLe (B.E K n) (B.E K' m) := ev_le B.E0 B.X B.le h k
theorem Ret.evt (h : Ret B f a r) : Evt B fun E _ => E.pure f a = some r := by
  obtain ⟨K, n, h⟩ := h
  exact ⟨max K n, fun K' m h1 h2 => (B.E_le (by omega) (by omega)).pure f a r h⟩
theorem RetH.evt (h : RetH B f ad H d H') : Evt B fun E _ => E.heap f ad H = some (d, H') := by
  obtain ⟨K, n, h⟩ := h
  exact ⟨max K n, fun K' m h1 h2 => (B.E_le (by omega) (by omega)).heap f ad H _ h⟩
theorem Ret.of (hx : B.X f = some xf) (h : Evt B fun E K => evPureF E K xf a = some r) : Ret B f a r := by
  obtain ⟨N, hN⟩ := h
  refine ⟨N, N + 1, ?_⟩
  show (match B.X f with
    | some xf => evPureF (B.E N N) N xf a
    | none => (B.E N N).pure f a) = some r
  rw [hx]; exact hN N N (Nat.le_refl _) (Nat.le_refl _)
theorem RetH.of (hx : B.X f = some xf) (h : Evt B fun E K => evHeapF E K xf ad H = some (d, H')) : RetH B f ad H d H' := by
  obtain ⟨N, hN⟩ := h
  refine ⟨N, N + 1, ?_⟩
  show (match B.X f with
    | some xf => evHeapF (B.E N N) N xf ad H
    | none => (B.E N N).heap f ad H) = some (d, H')
  rw [hx]; exact hN N N (Nat.le_refl _) (Nat.le_refl _)
theorem Ret.base (h : B.E0.pure f a = some r) : Ret B f a r := ⟨0, 0, h⟩
theorem RetH.base (h : B.E0.heap f ad H = some (d, H')) : RetH B f ad H d H' := ⟨0, 0, h⟩
theorem Base.mode (K n : Nat) : (B.E K n).mode = B.E0.mode := by
  induction n with
  | zero => rfl
  | succ n ih => exact ih
theorem Evt.mode : Evt B fun E _ => E.mode = B.E0.mode := Evt.of fun K n => Base.mode K n
end

end Go.Ev

namespace Go.Ev

def finD (rs : List (Nat × Option (Bool × Nat))) (s : St) : Option (DV × List Blk) :=
  match mapO (loadRes s) rs with
  | some ds => bif ds.all DV.plain then some (packD ds, s.H) else none
  | none => none
theorem heapF_eq (E : Oracle) (K nt : Nat) (rs : List (Nat × Option (Bool × Nat))) (c : XCode) (args : List DV) (H : List Blk) : evHeapF E K ⟨nt, rs, c⟩ args H = (bif Nat.ble args.length nt then (match evCode E K 0 c ⟨argsT args 0, H⟩ with | some (.normal, s) => finD rs s | some (.ret, s) => finD rs s | _ => none) else none) := by
  unfold evHeapF evBody
  rw [argsK_eq]
  cases Nat.ble args.length nt with
  | false => rfl
  | true =>
    simp only [cond_true]
    rcases evCode E K 0 c ⟨argsT args 0, H⟩ with _ | ⟨_ | _ | _, s⟩
    · rfl
    · simp only [finD]; cases mapO (loadRes s) rs <;> rfl
    · rfl
    · simp only [finD]; cases mapO (loadRes s) rs <;> rfl

theorem EVH : (∀ (E : Oracle) (K nt : Nat) (rs : List (Nat × Option (Bool × Nat))) (c : XCode) (args : List DV) (H : List Blk), evHeapF E K ⟨nt, rs, c⟩ args H = (bif Nat.ble args.length nt then (match evCode E K 0 c ⟨argsT args 0, H⟩ with | some (.normal, s) => finD rs s | some (.ret, s) => finD rs s | _ => none) else none)) ∧
    (∀ (s : St), finD [] s = some (.tup [], s.H)) ∧
    (∀ (s : St) (x : Nat × Option (Bool × Nat)), finD [x] s = (match loadRes s x with | some d => bif DV.plain d then some (d, s.H) else none | none => none)) ∧
    (∀ (s : St) (x y : Nat × Option (Bool × Nat)), finD [x, y] s = (match loadRes s x with | some d => (match loadRes s y with | some e => bif DV.plain d && DV.plain e then some (.tup [d, e], s.H) else none | none => none) | none => none)) ∧
    (∀ l, DV.plain (.one l) = true) ∧ (∀ l, DV.plain (.agg l) = true) ∧
    (∀ (E : Oracle) (dst : Option Nat) (f : Nat) (args : List XOpd) (g : Option (Nat × Bool)) (af : List Nat) (vs : List DV) (s : St), heapCall E ⟨dst, .call f, args, g, af⟩ vs s = evHeapCall E dst f vs s) ∧
    (∀ (E : Oracle) (dst : Option Nat) (f : Nat) (vs : List DV) (s : St), evHeapCall E dst f vs s = (match E.mode f with
      | .heap => (match E.heap f vs s.H with
        | some (v, H) => some (⟨putT s.T dst v, H⟩, [], [])
        | none => none)
      | .pure => none)) := by
  refine ⟨heapF_eq, fun s => rfl, fun s x => ?_, fun s x y => ?_, fun _ => rfl, fun _ => rfl, fun _ _ _ _ _ _ _ _ => rfl, fun E dst f vs s => ?_⟩
  · simp only [finD, mapO]
    cases loadRes s x <;> simp [packD]
  · simp only [finD, mapO]
    cases loadRes s x <;> cases loadRes s y <;> simp [packD]
  · unfold evHeapCall
    cases E.mode f with
    | pure => rfl
    | heap => cases E.heap f vs s.H with
      | none => rfl
      | some p => simp only [putK_eq]

theorem EVG : (∀ (G L : List Blk), (G ++ L)[G.length]? = L[0]?) ∧ (∀ (G L : List Blk) (k : Nat), (G ++ L)[G.length + k]? = L[k]?) ∧ (∀ (G L : List Blk) (k : Nat), (G ++ L)[G.length + 1 + k]? = L[1 + k]?) ∧
    (∀ (G L : List Blk) (x : Blk), (G ++ L).set G.length x = G ++ L.set 0 x) ∧ (∀ (G L : List Blk) (k : Nat) (x : Blk), (G ++ L).set (G.length + k) x = G ++ L.set k x) ∧
    (∀ (x : Blk) (L : List Blk), (x :: L)[0]? = some x) ∧ (∀ (x : Blk) (L : List Blk) (k : Nat), (x :: L)[k + 1]? = L[k]?) ∧ (∀ (x y : Blk) (L : List Blk), (x :: L).set 0 y = y :: L) ∧ (∀ (x y : Blk) (L : List Blk) (k : Nat), (x :: L).set (k + 1) y = x :: L.set k y) ∧
    (∀ (x y : Blk) (L : List Blk), (x :: y :: L)[1]? = some y) ∧ (∀ (x y z : Blk) (L : List Blk), (x :: y :: z :: L)[2]? = some z) ∧ (∀ (x y z u : Blk) (L : List Blk), (x :: y :: z :: u :: L)[3]? = some u) ∧
    (∀ (x y w : Blk) (L : List Blk), (x :: y :: L).set 1 w = x :: w :: L) ∧ (∀ (x y z w : Blk) (L : List Blk), (x :: y :: z :: L).set 2 w = x :: y :: w :: L) ∧ (∀ (x y z u w : Blk) (L : List Blk), (x :: y :: z :: u :: L).set 3 w = x :: y :: z :: w :: L) := by
  refine ⟨fun G L => ?_, fun G L k => ?_, fun G L k => ?_, fun G L x => ?_, fun G L k x => ?_, fun _ _ => rfl, fun _ _ _ => rfl, fun _ _ _ => rfl, fun _ _ _ _ => rfl, fun _ _ _ => rfl, fun _ _ _ _ => rfl, fun _ _ _ _ _ => rfl, fun _ _ _ _ => rfl, fun _ _ _ _ _ => rfl, fun _ _ _ _ _ _ => rfl⟩
  · rw [List.getElem?_append_right (Nat.le_refl _), Nat.sub_self]
  · rw [List.getElem?_append_right (Nat.le_add_right ..), Nat.add_sub_cancel_left]
  · rw [List.getElem?_append_right (by omega)]
    congr 1; omega
  · rw [List.set_append_right _ _ (Nat.le_refl _), Nat.sub_self]
  · rw [List.set_append_right _ _ (Nat.le_add_right ..), Nat.add_sub_cancel_left]

end Go.Ev
