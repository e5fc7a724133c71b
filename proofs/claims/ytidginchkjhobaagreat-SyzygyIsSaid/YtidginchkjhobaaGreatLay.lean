/- The pairs of indices below a bound: what the function that yields them does. -/
import Derived.RangeFuncLeaves
import Derived.RangeFuncCalls
import Derived.WalkKit
import Derived.OwnWalkIn
import Derived.BigFrameIn
import Derived.TacticsInMore
import Derived.LoopNIn
import Derived.LoopIn
import Derived.Test.YtidginchkjhobaaGreatProg
import Derived.Test.YtidginchkjhobaaGreatEvTop
import Derived.Shelf.SlSortCmp.NoneTotal
import Derived.Shelf.Lay
import Derived.Ground.SlsfProg
namespace Go.Proofs.YtidginchkjhobaaGreat
open Go.RowKit Go.Ev

attribute [local go_sem] Oper.semAt_some

def prow (n i : Nat) : List (Nat × Nat) := (List.range (n - (i + 1))).map fun k => (i, i + 1 + k)
def ppre (n i : Nat) : List (Nat × Nat) := (List.range i).flatMap (prow n)

theorem ppre_succ (n i : Nat) : ppre n (i + 1) = ppre n i ++ prow n i := by simp [ppre, List.range_succ]

theorem ppre_get (n i k : Nat) (hi : i < n) (hk : i + 1 + k < n) : (ppre n n)[(ppre n i).length + k]? = some (i, i + 1 + k) := by
  have split : ∀ m, i < m → ∃ r, ppre n m = ppre n i ++ prow n i ++ r := by
    intro m
    induction m with
    | zero => intro h; omega
    | succ m ih =>
      intro h
      rw [ppre_succ]
      by_cases e : i = m
      · subst e; exact ⟨[], by simp⟩
      · obtain ⟨r, hr⟩ := ih (by omega)
        exact ⟨r ++ prow n m, by rw [hr]; simp⟩
  obtain ⟨r, hr⟩ := split n hi
  rw [hr, List.append_assoc, List.getElem?_append_right (by omega)]
  rw [show (ppre n i).length + k - (ppre n i).length = k by omega]
  have hlen : (prow n i).length = n - (i + 1) := by simp [prow]
  rw [List.getElem?_append_left (by omega)]
  simp only [prow, List.getElem?_map, List.getElem?_range (show k < n - (i + 1) by omega), Option.map_some]

theorem ppre_len_succ (n i : Nat) : (ppre n (i + 1)).length = (ppre n i).length + (n - (i + 1)) := by rw [ppre_succ]; simp [prow]

def prs (n : Nat) : List (List PV) := (ppre n n).map fun p => [.one (.int .i64 p.1), .one (.int .i64 p.2)]

theorem prs_get (n i j : Nat) (hij : i < j) (hj : j < n) : (prs n)[(ppre n i).length + (j - (i + 1))]? = some [.one (.int .i64 i), .one (.int .i64 j)] := by
  simp only [prs, List.getElem?_map]
  rw [ppre_get n i (j - (i + 1)) (by omega) (by omega), show i + 1 + (j - (i + 1)) = j by omega]
  rfl

theorem int_of {w : World} {L : BS} {v : Value} {k : IntKind} {z : Int} (h : RepP w L v (.int k z)) : v = .int k z := by
  generalize hl : PL.int k z = l at h
  cases h <;> cases hl
  rfl

theorem ref_cell {w : World} {L : BS} {b off : Nat} {k : IntKind} {z : Int} (h : RepP w L (.pointer (some ⟨b, off, none⟩)) (.ref [.int k z])) : w.cell? ⟨b, off, none⟩ = some (.int k z) := by
  generalize hl : PL.ref [PL.int k z] = l at h
  generalize hv : Value.pointer (some ⟨b, off, none⟩) = v at h
  cases h <;> cases hl
  rename_i vals ho hc hr
  cases hv
  have h1 := hc 0 _ rfl
  rw [int_of (hr 0 _ rfl)] at h1
  simpa using h1

set_option maxRecDepth 100000 in
set_option maxHeartbeats 2000000 in
theorem pairs_iter (n : Nat) (hn : n < 1000000) : IterOk Tryz.prog 141 [.ref [.int .i64 n]] (prs n) := by
  intro l cv J Jx hcap hY W h0
  have hcv : ∃ v, cv = [v] := by
    obtain ⟨L, hL⟩ := hcap 0 W h0
    cases hL with
    | cons _ h => cases h; exact ⟨_, rfl⟩
  obtain ⟨v, rfl⟩ := hcv
  obtain ⟨b, off, rfl⟩ : ∃ b off, v = .pointer (some ⟨b, off, none⟩) := by
    obtain ⟨L, hL⟩ := hcap 0 W h0
    cases hL with
    | cons h _ => cases h; exact ⟨_, _, rfl⟩
  have hcell : ∀ i W, J i W → W.cell? ⟨b, off, none⟩ = some (.int .i64 n) := by
    intro i W hJ
    obtain ⟨L, hL⟩ := hcap i W hJ
    cases hL with
    | cons h _ => exact ref_cell h
  have hYY : ∀ i j W, i < j → j < n → J ((ppre n i).length + (j - (i + 1))) W → YieldAt Fence.wide 0 Tryz.prog l #[.int .i64 (i : Int), .int .i64 (j : Int)] W fun e W' => (e = .returned (.bool true) ∧ J ((ppre n i).length + (j - (i + 1)) + 1) W') ∨ (e = .returned (.bool false) ∧ Jx W') := by
    intro i j W hij hj hJ
    exact hY _ W _ [.int .i64 (i : Int), .int .i64 (j : Int)] hJ (prs_get n i j hij hj) (.cons (fun L μ h => RepD.p _ _ (.int _ _)) (.cons (fun L μ h => RepD.p _ _ (.int _ _)) .nil))
  refine callsIn_of_wp Tryz.func141 rfl trivial ?_ rfl
  simp only [Tryz.ntmps141, List.size_toArray, List.length_cons, List.length_nil, Nat.reduceAdd, Nat.reduceSub, Array.replicate_succ, Array.replicate_zero, List.push_toArray, List.append_toArray, List.nil_append, List.cons_append]
  have hc0 := hcell 0 W h0
  gi_wp2
  gi_loopw [6] (fun x wr => ∃ i : Nat, i ≤ n ∧ x = .int .i64 (i : Int) ∧ J (ppre n i).length wr)
    (fun x _ => n - (intOf x).toNat)
  case atStart => exact ⟨0, Nat.zero_le _, rfl, by simpa [ppre] using h0⟩
  case round =>
    obtain ⟨i, hi, rfl, hJi⟩ := hrel
    by_cases hlt : i < n
    · have hlt' : (i : Int) < (n : Int) := by omega
      gi_wp2
      gi_loopw [4] (fun x wr' => ∃ j : Nat, i + 1 ≤ j ∧ j ≤ n ∧ x = .int .i64 (j : Int) ∧ J ((ppre n i).length + (j - (i + 1))) wr')
        (fun x _ => n - (intOf x).toNat)
      case atStart => exact ⟨i + 1, Nat.le_refl _, hlt, by simp, by simpa using hJi⟩
      case round =>
        obtain ⟨j, hj1, hj2, rfl, hJj⟩ := hrel
        have hcj := hcell _ _ hJj
        by_cases hjlt : j < n
        · have hjlt' : (j : Int) < (n : Int) := by omega
          obtain ⟨fn, tmps, assign, body, hy, hR⟩ := hYY i j _ (by omega) hjlt hJj
          gi_wp2
          refine ⟨rfl, hR.mono ?_⟩
          rintro e W3 (⟨rfl, hJ3⟩ | ⟨rfl, hJx3⟩)
          · gi_wp2
            go_roundw
            case rel => exact ⟨j + 1, by omega, by omega, by simp, by rw [show (ppre n i).length + (j + 1 - (i + 1)) = (ppre n i).length + (j - (i + 1)) + 1 by omega]; exact hJ3⟩
            case measure => simp [intOf]; omega
          · gi_wp2
            refine bodyPost_ret (results_none rfl _ _ _) rfl ?_
            exact ⟨⟨_, rfl⟩, .inr hJx3⟩
        · obtain rfl : j = n := by omega
          gi_wp2
          refine ⟨⟨i + 1, by omega, by simp, ?_⟩, by simp [intOf]; omega⟩
          rw [ppre_len_succ]; exact hJj
    · obtain rfl : i = n := by omega
      gi_wp2
      go_end0
      refine ⟨⟨_, rfl⟩, .inl ?_⟩
      have : (prs i).length = (ppre i i).length := by simp [prs]
      rw [this]; exact hJi

end Go.Proofs.YtidginchkjhobaaGreat

namespace Go.Proofs.YtidginchkjhobaaGreat
open Go.Shelf Go.Proofs

def ren : Shelf.Ren where
  f := fun x => match x with
    | 14 => 186
    | 20 => 198
    | 21 => 199
    | 22 => 200
    | 23 => 201
    | 24 => 202
    | 25 => 203
    | 26 => 204
    | 27 => 205
    | 46 => 208
    | 47 => 209
    | 48 => 210
    | 49 => 211
    | 50 => 212
    | 15 => 187
    | 57 => 213
    | 28 => 206
    | 29 => 207
    | n => n
  t := fun x => match x with
    | 24 => 75
    | 22 => 32
    | 3 => 3
    | 25 => 194
    | 4 => 4
    | 0 => 0
    | 46 => 215
    | 45 => 214
    | 50 => 219
    | 66 => 222
    | 39 => 172
    | 55 => 129
    | 70 => 226
    | 76 => 228
    | 77 => 229
    | 53 => 177
    | 5 => 5
    | 9 => 9
    | n => n
  g := fun x => x

theorem sortT : SlLaysF0.n14 Tryz.prog ren where
  mixed := by kernel_rfl
  f14 := ⟨ "slices.pdqsortCmpFunc[eliminant/api.Term]", by decide, Tryz.func186⟩
  f15 := Tryz.func187
  f20 := ⟨ "slices.insertionSortCmpFunc[eliminant/api.Term]", by decide, Tryz.func198⟩
  f21 := ⟨ "slices.heapSortCmpFunc[eliminant/api.Term]", by decide, Tryz.func199⟩
  f22 := ⟨ "slices.breakPatternsCmpFunc[eliminant/api.Term]", by decide, Tryz.func200⟩
  f23 := ⟨ "slices.choosePivotCmpFunc[eliminant/api.Term]", by decide, Tryz.func201⟩
  f24 := ⟨ "slices.reverseRangeCmpFunc[eliminant/api.Term]", by decide, Tryz.func202⟩
  f25 := ⟨ "slices.partialInsertionSortCmpFunc[eliminant/api.Term]", by decide, Tryz.func203⟩
  f26 := ⟨ "slices.partitionEqualCmpFunc[eliminant/api.Term]", by decide, Tryz.func204⟩
  f27 := ⟨ "slices.partitionCmpFunc[eliminant/api.Term]", by decide, Tryz.func205⟩
  f28 := Tryz.func206
  f29 := Tryz.func207
  f46 := ⟨ "slices.siftDownCmpFunc[eliminant/api.Term]", by decide, Tryz.func208⟩
  f47 := Tryz.func209
  f48 := Tryz.func210
  f49 := ⟨ "slices.medianAdjacentCmpFunc[eliminant/api.Term]", by decide, Tryz.func211⟩
  f50 := ⟨ "slices.medianCmpFunc[eliminant/api.Term]", by decide, Tryz.func212⟩
  f57 := ⟨ "slices.order2CmpFunc[eliminant/api.Term]", by decide, Tryz.func213⟩
  t0 := Tryz.underlying0
  a0 := Tryz.isAgg0
  z0 := Tryz.sizeOf0
  v0 := Tryz.zeroValue0
  t3 := Tryz.underlying3
  a3 := Tryz.isAgg3
  z3 := Tryz.sizeOf3
  v3 := Tryz.zeroValue3
  t4 := Tryz.underlying4
  a4 := Tryz.isAgg4
  z4 := Tryz.sizeOf4
  v4 := Tryz.zeroValue4
  t5 := Tryz.underlying5
  a5 := Tryz.isAgg5
  z5 := Tryz.sizeOf5
  v5 := Tryz.zeroValue5
  t9 := Tryz.underlying9
  a9 := Tryz.isAgg9
  z9 := Tryz.sizeOf9
  v9 := Tryz.zeroValue9
  t22 := Tryz.underlying32
  a22 := Tryz.isAgg32
  z22 := Tryz.sizeOf32
  v22 := Tryz.zeroValue32
  t25 := Tryz.underlying194
  a25 := Tryz.isAgg194
  z25 := Tryz.sizeOf194
  v25 := Tryz.zeroValue194
  t39 := Tryz.underlying172
  a39 := Tryz.isAgg172
  z39 := Tryz.sizeOf172
  v39 := Tryz.zeroValue172
  t45 := Tryz.underlying214
  a45 := Tryz.isAgg214
  z45 := Tryz.sizeOf214
  v45 := Tryz.zeroValue214
  t46 := Tryz.underlying215
  a46 := Tryz.isAgg215
  z46 := Tryz.sizeOf215
  v46 := Tryz.zeroValue215
  t50 := Tryz.underlying219
  a50 := Tryz.isAgg219
  z50 := Tryz.sizeOf219
  v50 := Tryz.zeroValue219
  t53 := Tryz.underlying177
  a53 := Tryz.isAgg177
  z53 := Tryz.sizeOf177
  v53 := Tryz.zeroValue177
  t55 := Tryz.underlying129
  a55 := Tryz.isAgg129
  z55 := Tryz.sizeOf129
  v55 := Tryz.zeroValue129
  t66 := Tryz.underlying222
  a66 := Tryz.isAgg222
  z66 := Tryz.sizeOf222
  v66 := Tryz.zeroValue222
  t70 := Tryz.underlying226
  a70 := Tryz.isAgg226
  z70 := Tryz.sizeOf226
  v70 := Tryz.zeroValue226
  t76 := Tryz.underlying228
  a76 := Tryz.isAgg228
  z76 := Tryz.sizeOf228
  v76 := Tryz.zeroValue228
  t77 := Tryz.underlying229
  a77 := Tryz.isAgg229
  z77 := Tryz.sizeOf229
  v77 := Tryz.zeroValue229

end Go.Proofs.YtidginchkjhobaaGreat
