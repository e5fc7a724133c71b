/- Opening the raw arguments. -/
import Derived.Test.YtidginchkjhobaaGreatLawIs
import Derived.Test.YtidginchkjhobaaGreatSanity
import Derived.Test.YtidginchkjhobaaGreatRows
import Derived.ProofKit
import Derived.OpenShut
namespace Go.Proofs.YtidginchkjhobaaGreat
open Go.Ev Go.ChangeShapes Go.WideShapes Go.ChangeAt Go.RowKit

theorem list_of {α : Type} {Q : Nat → α → Prop} : ∀ (n : Nat), (∀ i, i < n → ∃ c, Q i c) → ∃ es : List α, es.length = n ∧ ∀ i c, es[i]? = some c → Q i c
  | 0, _ => ⟨[], rfl, fun i c h => by simp at h⟩
  | n + 1, h => by
    obtain ⟨es, h1, h2⟩ := list_of n (fun i hi => h i (by omega))
    obtain ⟨c, hc⟩ := h n (by omega)
    refine ⟨es ++ [c], by simp [h1], fun i d hd => ?_⟩
    by_cases hi : i < es.length
    · rw [List.getElem?_append_left hi] at hd; exact h2 i d hd
    · rw [List.getElem?_append_right (by omega)] at hd
      have e : i - es.length = 0 := by
        have := (List.getElem?_eq_some_iff.1 hd).1
        simp at this; omega
      rw [e] at hd
      simp only [List.getElem?_cons_zero, Option.some.injEq] at hd
      subst hd
      have : i = n := by omega
      subst this; exact hc

section
variable {H : Type} {enc : TypeId × Value → H} {P : Program} {w : World} {O : BS}

/-- A slice whose elements read so is a list. -/
theorem slice_rep (hO : ∀ b, ¬ O b) {t e : TypeId} {fuel sz : Nat} {cs : List Value} {x : DataW H × List MemPlace} (ht : P.underlying t = some (.slice e)) (hc : P.cellsOf e = sz) (hsz : 0 < sz) (K : List PL → Prop)
    (elem : ∀ (n : Nat) (cs : List Value) (y : DataW H × List MemPlace), DataW.trod enc P w 0 (fun _ => true) true n e cs = some y → ∃ c : List PL, c.length = sz ∧ K c ∧ ∀ (j : Nat) (d : PL), c[j]? = some d → ∃ u, cs[j]? = some u ∧ RepP w O u d)
    (h : DataW.trod enc P w 0 (fun _ => true) true fuel t cs = some x) : ∃ v R es, cs = [v] ∧ RepP w O v R ∧ Sl R es ∧ ∀ c ∈ es, K c := by
  rcases DataW.trod_slice ht h with ⟨rfl, -⟩ | ⟨a, len, cap, elems, rest, n, -, rfl, -, -, hlc, -, hlen, hel, -, -⟩
  · exact ⟨_, .nilS, [], rfl, .nilS, .nil, fun _ h => by cases h⟩
  · have key : ∀ i, i < len → ∃ c : List PL, c.length = sz ∧ K c ∧ ∀ (j : Nat) (d : PL), c[j]? = some d → ∃ u, w.cell? ((a.add (i * sz)).add j) = some u ∧ RepP w O u d := by
      intro i hi
      have h1 := hel i hi
      rw [List.getElem?_eq_getElem (by omega), hc, Option.bind_eq_some_iff] at h1
      obtain ⟨ci, hci, hti⟩ := h1
      obtain ⟨-, hcl, hcell⟩ := World.cells?_some hci
      obtain ⟨c, g1, g2, g3⟩ := elem n ci _ hti
      refine ⟨c, g1, g2, fun j d hj => ?_⟩
      obtain ⟨u, hu, hr⟩ := g3 j d hj
      exact ⟨u, by rw [hcell j (by have := (List.getElem?_eq_some_iff.1 hj).1; omega)]; exact hu, hr⟩
    obtain ⟨es, hl, hes⟩ := list_of len key
    refine ⟨_, .lst es, es, rfl, ?_, .lst, fun c hcm => ?_⟩
    · by_cases h0 : len = 0
      · subst h0
        obtain rfl := List.eq_nil_of_length_eq_zero hl
        exact RepP.emp a cap
      · obtain ⟨b, off, sp⟩ := a
        obtain ⟨c, k1, -, k3⟩ := key 0 (by omega)
        obtain ⟨u, hu, -⟩ := k3 0 c[0] (List.getElem?_eq_getElem (by omega))
        have hsp : sp = none := by
          have := World.cell?_spot hu
          simpa [Addr.add] using this
        subst hsp
        rw [← hl]
        refine .lst b off sz cap es (fun i j => (w.cell? ⟨b, off + i * sz + j, none⟩).getD (.bool true)) (fun _ _ _ _ _ _ => hO b) (by omega) (fun i c hi => (hes i c hi).1) (fun i c j d hi hj => ?_) (fun i c j d hi hj => ?_) (.inr rfl)
        · obtain ⟨u, hu, -⟩ := (hes i c hi).2.2 j d hj
          rw [add_addr, add_addr] at hu
          rw [hu]; rfl
        · obtain ⟨u, hu, hr⟩ := (hes i c hi).2.2 j d hj
          rw [add_addr, add_addr] at hu
          rw [hu]; exact hr
    · obtain ⟨i, hi⟩ := List.getElem?_of_mem hcm
      exact (hes i c hi).2.1

end

section
variable {H : Type} {enc : TypeId × Value → H} {w : World} {O : BS}

theorem wf_i8 {a : Int} (h : (Lit.int .i8 a).wf = true) : -128 ≤ a ∧ a ≤ 127 := by
  simp [Lit.wf, IntKind.min, IntKind.max, IntKind.signed, IntKind.bits] at h
  omega
theorem wf_u8 {a : Int} (h : (Lit.int .u8 a).wf = true) : 0 ≤ a ∧ a ≤ 255 := by
  simp [Lit.wf, IntKind.min, IntKind.max, IntKind.signed, IntKind.bits] at h
  omega

theorem row5 (n : Nat) (cs : List Value) (y : DataW H × List MemPlace) (h : DataW.trod enc Tryz.prog w 0 (fun _ => true) true n 110 cs = some y) : ∃ c : List PL, c.length = 5 ∧ RawRow c ∧ ∀ (j : Nat) (d : PL), c[j]? = some d → ∃ u, cs[j]? = some u ∧ RepP w O u d := by
  obtain ⟨xs, m, -, -, hl, hx, hel⟩ := DataW.trod_array Tryz.underlying110 h
  have hl5 : cs.length = 5 := hl.trans (by kernel_rfl)
  have h1 : Tryz.prog.cellsOf 38 = 1 := by kernel_rfl
  have each : ∀ i, i < 5 → ∃ a, cs[i]? = some (.int .i8 a) ∧ -128 ≤ a ∧ a ≤ 127 := by
    intro i hi
    have h2 := hel i hi
    rw [List.getElem?_eq_getElem (by omega), h1, Nat.mul_one] at h2
    obtain ⟨a, e, -, hw⟩ := DataW.trod_int Tryz.underlying38 h2
    refine ⟨a, ?_, wf_i8 hw⟩
    have h3 : ((cs.drop i).take 1)[0]? = some (.int .i8 a) := by rw [e]; rfl
    rw [List.getElem?_take, List.getElem?_drop] at h3
    simpa using h3
  obtain ⟨a0, p0, q0⟩ := each 0 (by omega)
  obtain ⟨a1, p1, q1⟩ := each 1 (by omega)
  obtain ⟨a2, p2, q2⟩ := each 2 (by omega)
  obtain ⟨a3, p3, q3⟩ := each 3 (by omega)
  obtain ⟨a4, p4, q4⟩ := each 4 (by omega)
  refine ⟨raw5 a0 a1 a2 a3 a4, rfl, ⟨a0, a1, a2, a3, a4, rfl, q0, q1, q2, q3⟩, fun j d hj => ?_⟩
  match j, hj with
  | 0, hj => cases hj; exact ⟨_, p0, .int _ _⟩
  | 1, hj => cases hj; exact ⟨_, p1, .int _ _⟩
  | 2, hj => cases hj; exact ⟨_, p2, .int _ _⟩
  | 3, hj => cases hj; exact ⟨_, p3, .int _ _⟩
  | 4, hj => cases hj; exact ⟨_, p4, .int _ _⟩
  | j + 5, hj => simp [raw5] at hj

theorem rawP (hO : ∀ b, ¬ O b) {n : Nat} {cs : List Value} {y : DataW H × List MemPlace} (h : DataW.trod enc Tryz.prog w 0 (fun _ => true) true n 27 cs = some y) : ∃ v R, cs = [v] ∧ RepP w O v R ∧ RawPoly R := by
  obtain ⟨xs, m, -, -, hl, hx, hel⟩ := DataW.trod_struct Tryz.underlying27 h
  have hl1 : cs.length = 1 := hl.trans (by kernel_rfl)
  have h2 : DataW.trod enc Tryz.prog w 0 (fun _ => true) true m 25 ((cs.drop 0).take (Tryz.prog.cellsOf 25)) = xs[0]? := hel 0 _ rfl
  rw [List.getElem?_eq_getElem (by simp at hx; omega)] at h2
  have h3 : (cs.drop 0).take (Tryz.prog.cellsOf 25) = cs := by rw [show Tryz.prog.cellsOf 25 = 1 by kernel_rfl, List.drop_zero, List.take_of_length_le (by omega)]
  rw [h3] at h2
  obtain ⟨v, R, es, g1, g2, g3, g4⟩ := slice_rep hO Tryz.underlying25 (sz := 5) (by kernel_rfl) (by decide) RawRow row5 h2
  exact ⟨v, R, g1, g2, es, g3, g4⟩

set_option maxRecDepth 100000 in
theorem rawL (hO : ∀ b, ¬ O b) {n : Nat} {cs : List Value} {y : DataW H × List MemPlace} (h : DataW.trod enc Tryz.prog w 0 (fun _ => true) true n 22 cs = some y) : ∃ v L, cs = [v] ∧ RepP w O v L ∧ ∃ ls, Sl L ls ∧ ∀ c ∈ ls, ∃ R, c = [R] ∧ RawPoly R := by
  obtain ⟨v, L, es, g1, g2, g3, g4⟩ := slice_rep hO Tryz.underlying22 (sz := 1) (by kernel_rfl) (by decide) (fun c => ∃ R, c = [R] ∧ RawPoly R) (fun n cs y hy => by
    obtain ⟨v, R, rfl, k2, k3⟩ := rawP hO hy
    refine ⟨[R], rfl, ⟨R, rfl, k3⟩, fun j d hj => ?_⟩
    match j, hj with
    | 0, hj => cases hj; exact ⟨v, rfl, k2⟩
    | j + 1, hj => simp at hj) h
  exact ⟨v, L, g1, g2, es, g3, g4⟩

theorem rawU (n : Nat) {cs : List Value} {y : DataW H × List MemPlace} (h : DataW.trod enc Tryz.prog w 0 (fun _ => true) true n 5 cs = some y) : ∃ k, cs = [.int .u8 (Int.ofNat k)] ∧ k < 256 := by
  obtain ⟨a, e, -, hw⟩ := DataW.trod_int Tryz.underlying5 h
  have hr := wf_u8 hw
  refine ⟨a.toNat, ?_, by omega⟩
  rw [e, show Int.ofNat a.toNat = a from Int.toNat_of_nonneg hr.1]


set_option maxRecDepth 100000 in
/-- The list and its order. -/
theorem rawG (hO : ∀ b, ¬ O b) {n : Nat} {cs : List Value} {y : DataW H × List MemPlace} (h : DataW.trod enc Tryz.prog w 0 (fun _ => true) true n 24 cs = some y) : ∃ v L k, cs = [v, .int .u8 (Int.ofNat k)] ∧ k < 256 ∧ RepP w O v L ∧ RawList L := by
  obtain ⟨xs, m, -, -, hl, hx, hel⟩ := DataW.trod_struct Tryz.underlying24 h
  have hl2 : cs.length = 2 := hl.trans (by kernel_rfl)
  match cs, hl2 with
  | [c0, c1], _ =>
    have h2 : DataW.trod enc Tryz.prog w 0 (fun _ => true) true m 22 (([c0, c1].drop 0).take (Tryz.prog.cellsOf 22)) = xs[0]? := hel 0 _ rfl
    have h3 : DataW.trod enc Tryz.prog w 0 (fun _ => true) true m 5 (([c0, c1].drop 1).take (Tryz.prog.cellsOf 5)) = xs[1]? := hel 1 _ rfl
    rw [List.getElem?_eq_getElem (by simp at hx; omega), show Tryz.prog.cellsOf 22 = 1 by kernel_rfl] at h2
    rw [List.getElem?_eq_getElem (by simp at hx; omega), show Tryz.prog.cellsOf 5 = 1 by kernel_rfl] at h3
    obtain ⟨v, L, g1, g2, g3⟩ := rawL hO h2
    obtain ⟨k, e, hk⟩ := rawU _ h3
    simp at g1 e
    subst g1 e
    exact ⟨c0, L, k, rfl, hk, g2, g3⟩

set_option maxRecDepth 100000 in
/-- Three polynomials. -/
theorem rawA (hO : ∀ b, ¬ O b) {n : Nat} {cs : List Value} {y : DataW H × List MemPlace} (h : DataW.trod enc Tryz.prog w 0 (fun _ => true) true n 28 cs = some y) : ∃ v0 v1 v2 q0 q1 q2, cs = [v0, v1, v2] ∧ RepP w O v0 q0 ∧ RepP w O v1 q1 ∧ RepP w O v2 q2 ∧ RawPoly q0 ∧ RawPoly q1 ∧ RawPoly q2 := by
  obtain ⟨xs, m, -, -, hl, hx, hel⟩ := DataW.trod_array Tryz.underlying28 h
  have hl3 : cs.length = 3 := hl.trans (by kernel_rfl)
  have h1 : Tryz.prog.cellsOf 27 = 1 := by kernel_rfl
  have each : ∀ i, i < 3 → ∃ v q, cs[i]? = some v ∧ RepP w O v q ∧ RawPoly q := by
    intro i hi
    have h2 := hel i hi
    rw [List.getElem?_eq_getElem (by omega), h1, Nat.mul_one] at h2
    obtain ⟨v, q, e, hv, hq⟩ := rawP hO h2
    refine ⟨v, q, ?_, hv, hq⟩
    have h3 : ((cs.drop i).take 1)[0]? = some v := by rw [e]; rfl
    rw [List.getElem?_take, List.getElem?_drop] at h3
    simpa using h3
  obtain ⟨v0, q0, p0, r0, s0⟩ := each 0 (by omega)
  obtain ⟨v1, q1, p1, r1, s1⟩ := each 1 (by omega)
  obtain ⟨v2, q2, p2, r2, s2⟩ := each 2 (by omega)
  refine ⟨v0, v1, v2, q0, q1, q2, ?_, r0, r1, r2, s0, s1, s2⟩
  match cs, hl3 with
  | [a, b, c], _ =>
    simp at p0 p1 p2
    rw [p0, p1, p2]

theorem agg_of {v : Value} (h : v.cells.toList.length ≠ 1) : ∃ c, v = .agg c := by
  cases v <;> first | exact ⟨_, rfl⟩ | exact absurd rfl h

end
end Go.Proofs.YtidginchkjhobaaGreat
