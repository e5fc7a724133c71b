/- The pairs of indices below a bound: what the function that yields them does. -/
import Derived.RangeFuncLeaves
import Derived.RangeFuncCalls
import Derived.WalkKit
import Derived.OwnWalkIn
import Derived.BigFrameIn
import Derived.TacticsInMore
import Derived.LoopNIn
import Derived.LoopIn
import Derived.Test.YtefpgecinlekpaaGreatProg
import Derived.Test.YtefpgecinlekpaaGreatEvTop
namespace Go.Proofs.YtefpgecinlekpaaGreat
open Go.RowKit Go.Ev

attribute [local go_sem] Oper.semAt_some

def prow (n i : Nat) : List (Nat × Nat) := (List.range (n - (i + 1))).map fun k => (i, i + 1 + k)
def ppre (n i : Nat) : List (Nat × Nat) := (List.range i).flatMap (prow n)

theorem ppre_succ (n i : Nat) : ppre n (i + 1) = ppre n i ++ prow n i := by simp [ppre, List.range_succ]

theorem ppre_get (n i k : Nat) (hi : i < n) (hk : i + 1 + k < n) : (ppre n n)[(ppre n i).length + k]? = some (i, i + 1 + k) := by
  have split : ∀ m, i < m → ∃ r, ppre n m = ppre n i ++ prow n i ++ r := by
    intro m
    induction m with
    | zero => intro h; omega
    | succ m ih =>
      intro h
      rw [ppre_succ]
      by_cases e : i = m
      · subst e; exact ⟨[], by simp⟩
      · obtain ⟨r, hr⟩ := ih (by omega)
        exact ⟨r ++ prow n m, by rw [hr]; simp⟩
  obtain ⟨r, hr⟩ := split n hi
  rw [hr, List.append_assoc, List.getElem?_append_right (by omega)]
  rw [show (ppre n i).length + k - (ppre n i).length = k by omega]
  have hlen : (prow n i).length = n - (i + 1) := by simp [prow]
  rw [List.getElem?_append_left (by omega)]
  simp only [prow, List.getElem?_map, List.getElem?_range (show k < n - (i + 1) by omega), Option.map_some]

theorem ppre_len_succ (n i : Nat) : (ppre n (i + 1)).length = (ppre n i).length + (n - (i + 1)) := by rw [ppre_succ]; simp [prow]

def prs (n : Nat) : List (List PV) := (ppre n n).map fun p => [.one (.int .i64 p.1), .one (.int .i64 p.2)]

theorem prs_get (n i j : Nat) (hij : i < j) (hj : j < n) : (prs n)[(ppre n i).length + (j - (i + 1))]? = some [.one (.int .i64 i), .one (.int .i64 j)] := by
  simp only [prs, List.getElem?_map]
  rw [ppre_get n i (j - (i + 1)) (by omega) (by omega), show i + 1 + (j - (i + 1)) = j by omega]
  rfl

set_option maxRecDepth 100000 in
set_option maxHeartbeats 2000000 in
theorem pairs_iter (n : Nat) (hn : n < 1000000) : IterOk Tryz.prog 99 [.ref [.int .i64 n]] (prs n) := by
  intro l cv J Jx hcap hY W h0
  have hcv : ∃ v, cv = [v] := by
    obtain ⟨L, hL⟩ := hcap 0 W h0
    cases hL with
    | cons _ h => cases h; exact ⟨_, rfl⟩
  obtain ⟨v, rfl⟩ := hcv
  obtain ⟨b, off, rfl⟩ : ∃ b off, v = .pointer (some ⟨b, off, none⟩) := by
    obtain ⟨L, hL⟩ := hcap 0 W h0
    cases hL with
    | cons h _ => cases h; exact ⟨_, _, rfl⟩
  have hcell : ∀ i W, J i W → W.cell? ⟨b, off, none⟩ = some (.int .i64 n) := by
    intro i W hJ
    obtain ⟨L, hL⟩ := hcap i W hJ
    cases hL with
    | cons h _ => cases h with
      | ref _ _ _ vals ho hc hr =>
        have h1 := hc 0 _ rfl
        have h2 := hr 0 _ rfl
        generalize vals 0 = u at h1 h2
        cases h2
        simpa using h1
  have hYY : ∀ i j W, i < j → j < n → J ((ppre n i).length + (j - (i + 1))) W → YieldAt Fence.wide 0 Tryz.prog l #[.int .i64 (i : Int), .int .i64 (j : Int)] W fun e W' => (e = .returned (.bool true) ∧ J ((ppre n i).length + (j - (i + 1)) + 1) W') ∨ (e = .returned (.bool false) ∧ Jx W') := by
    intro i j W hij hj hJ
    exact hY _ W _ [.int .i64 (i : Int), .int .i64 (j : Int)] hJ (prs_get n i j hij hj) (.cons (fun L μ h => RepD.p _ _ (.int _ _)) (.cons (fun L μ h => RepD.p _ _ (.int _ _)) .nil))
  refine callsIn_of_wp Tryz.func99 rfl trivial ?_ rfl
  simp only [Tryz.ntmps99, List.size_toArray, List.length_cons, List.length_nil, Nat.reduceAdd, Nat.reduceSub, Array.replicate_succ, Array.replicate_zero, List.push_toArray, List.append_toArray, List.nil_append, List.cons_append]
  have hc0 := hcell 0 W h0
  gi_wp2
  gi_loopw [6] (fun x wr => ∃ i : Nat, i ≤ n ∧ x = .int .i64 (i : Int) ∧ J (ppre n i).length wr)
    (fun x _ => n - (intOf x).toNat)
  case atStart => exact ⟨0, Nat.zero_le _, rfl, by simpa [ppre] using h0⟩
  case round =>
    obtain ⟨i, hi, rfl, hJi⟩ := hrel
    by_cases hlt : i < n
    · have hlt' : (i : Int) < (n : Int) := by omega
      gi_wp2
      gi_loopw [4] (fun x wr' => ∃ j : Nat, i + 1 ≤ j ∧ j ≤ n ∧ x = .int .i64 (j : Int) ∧ J ((ppre n i).length + (j - (i + 1))) wr')
        (fun x _ => n - (intOf x).toNat)
      case atStart => exact ⟨i + 1, Nat.le_refl _, hlt, by simp, by simpa using hJi⟩
      case round =>
        obtain ⟨j, hj1, hj2, rfl, hJj⟩ := hrel
        have hcj := hcell _ _ hJj
        by_cases hjlt : j < n
        · have hjlt' : (j : Int) < (n : Int) := by omega
          obtain ⟨fn, tmps, assign, body, hy, hR⟩ := hYY i j _ (by omega) hjlt hJj
          gi_wp2
          refine ⟨rfl, hR.mono ?_⟩
          rintro e W3 (⟨rfl, hJ3⟩ | ⟨rfl, hJx3⟩)
          · gi_wp2
            go_roundw
            case rel => exact ⟨j + 1, by omega, by omega, by simp, by rw [show (ppre n i).length + (j + 1 - (i + 1)) = (ppre n i).length + (j - (i + 1)) + 1 by omega]; exact hJ3⟩
            case measure => simp [intOf]; omega
          · gi_wp2
            refine bodyPost_ret (results_none rfl _ _ _) rfl ?_
            exact ⟨⟨_, rfl⟩, .inr hJx3⟩
        · obtain rfl : j = n := by omega
          gi_wp2
          refine ⟨⟨i + 1, by omega, by simp, ?_⟩, by simp [intOf]; omega⟩
          rw [ppre_len_succ]; exact hJj
    · obtain rfl : i = n := by omega
      gi_wp2
      go_end0
      refine ⟨⟨_, rfl⟩, .inl ?_⟩
      have : (prs i).length = (ppre i i).length := by simp [prs]
      rw [this]; exact hJi

end Go.Proofs.YtefpgecinlekpaaGreat
