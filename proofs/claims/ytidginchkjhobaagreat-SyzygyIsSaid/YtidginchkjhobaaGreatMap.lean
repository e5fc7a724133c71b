/- Terms in a map: one more term. -/
import Derived.Test.YtidginchkjhobaaGreatSort
namespace Go.Proofs.YtidginchkjhobaaGreat
open Go.Ev Go.Num

/-- The chunk of an entry; a map with these terms. -/
def entC (m : List Nat) (n y d u : PL) : List DL := moD m ++ [.p n, .p y, .p d, .p u]
def IsE (c : List DL) (t : Tm) : Prop := ∃ n y d u, c = entC t.2 (.bool n) y (.bool d) u ∧ IsI [.bool n, y] t.1 ∧ IsI [.bool d, u] 1 ∧ MoOk t.2
abbrev MapR (ch : List (List DL)) (ts : List Tm) : Prop := All2 IsE ch ts

/-- One more term. -/
def addTo (z : Int) (m : List Nat) : List Tm → List Tm
  | [] => [(z, m)]
  | t :: ts => if m = t.2 then (t.1 + z, m) :: ts else t :: addTo z m ts

theorem entC_take {m : List Nat} (hm : m.length = 8) (n y d u : PL) : (entC m n y d u).take 8 = moD m := by
  rw [entC, List.take_append_of_le_length (by rw [moD_len]; omega), List.take_of_length_le (by rw [moD_len]; omega)]
theorem entC_drop {m : List Nat} (hm : m.length = 8) (n y d u : PL) : (entC m n y d u).drop 8 = [.p n, .p y, .p d, .p u] := by
  rw [entC, List.drop_append_of_le_length (by rw [moD_len]; omega), List.drop_eq_nil_of_le (by rw [moD_len]; omega)]; rfl

theorem find_none {m : List Nat} (hm : m.length = 8) {ch : List (List DL)} {ts : List Tm} (h : MapR ch ts) (hn : ∀ t ∈ ts, m ≠ t.2) (z : Int) : ∀ k, findC .i64 8 (moD m) ch k = some none ∧ addTo z m ts = ts ++ [(z, m)] := by
  induction h with
  | nil => intro k; exact ⟨rfl, rfl⟩
  | @cons c t ch ts hc h ih =>
    intro k
    obtain ⟨n, y, d, u, rfl, -, -, hmo⟩ := hc
    have h1 := hn t (List.mem_cons_self ..)
    obtain ⟨h2, h3⟩ := ih (fun t ht => hn t (List.mem_cons_of_mem _ ht)) (k + 1)
    refine ⟨?_, ?_⟩
    · simp only [findC, entC_take hmo.1, eqInts_mo m t.2 (by rw [hm, hmo.1]), decide_eq_false h1, h2]
    · simp only [addTo, if_neg h1, h3, List.cons_append]
theorem find_some {m : List Nat} (hm : m.length = 8) {ch : List (List DL)} {ts : List Tm} (h : MapR ch ts) (he : ∃ t ∈ ts, m = t.2) (z : Int) : ∃ i c t, ch[i]? = some c ∧ ts[i]? = some t ∧ t.2 = m ∧ IsE c t ∧ (∀ k, findC .i64 8 (moD m) ch k = some (some (k + i, c))) ∧ addTo z m ts = ts.set i (t.1 + z, m) := by
  induction h with
  | nil => obtain ⟨t, ht, -⟩ := he; cases ht
  | @cons c t ch ts hc h ih =>
    have hc' := hc
    obtain ⟨n, y, d, u, rfl, -, -, hmo⟩ := hc'
    by_cases e : m = t.2
    · refine ⟨0, _, t, rfl, rfl, e.symm, hc, fun k => ?_, ?_⟩
      · simp only [findC, entC_take hmo.1, eqInts_mo m t.2 (by rw [hm, hmo.1]), decide_eq_true e]
        rfl
      · simp only [addTo, if_pos e, List.set_cons_zero]
    · obtain ⟨i, c, t', h1, h2, h3, h4, h5, h6⟩ := ih (by
        obtain ⟨t', ht', e'⟩ := he
        rcases List.mem_cons.1 ht' with rfl | ht'
        · exact absurd e' e
        · exact ⟨t', ht', e'⟩)
      refine ⟨i + 1, c, t', by simpa using h1, by simpa using h2, h3, h4, fun k => ?_, ?_⟩
      · simp only [findC, entC_take hmo.1, eqInts_mo m t.2 (by rw [hm, hmo.1]), decide_eq_false e, h5 (k + 1)]
        rw [show k + 1 + i = k + (i + 1) by omega]
      · simp only [addTo, if_neg e, h6, List.set_cons_succ]

abbrev mapB (ch : List (List DL)) : Blk := ⟨false, 0, 8, ch, true, 1⟩

theorem lookup_none {m : List Nat} (hm : m.length = 8) {ch : List (List DL)} (hf : findC .i64 8 (moD m) ch 0 = some none) (X : List Blk) : opLookup 8 .i64 true [.bool false, .nilS, .bool false, .nilS] true (HFof (mapB ch :: X)) [.one (.mp 0), .agg (moD m)] =
    some ⟨.tup [.agg [.p (.bool false), .p .nilS, .p (.bool false), .p .nilS], .one (.p (.bool false))], [], [], [0]⟩ := by
  have hk : eqInts .i64 (moD m) (moD m) = some true := by rw [eqInts_mo m m rfl]; simp
  have h0 : HFof (mapB ch :: X) 0 = some (mapB ch) := rfl
  simp only [opLookup, h0, lookIn, hf, hk, moD_len, hm]
  rfl
theorem lookup_some {m : List Nat} (hm : m.length = 8) {ch : List (List DL)} {i : Nat} {n y d u : PL} (hf : findC .i64 8 (moD m) ch 0 = some (some (i, entC m n y d u))) (X : List Blk) : opLookup 8 .i64 true [.bool false, .nilS, .bool false, .nilS] true (HFof (mapB ch :: X)) [.one (.mp 0), .agg (moD m)] =
    some ⟨.tup [.agg [.p n, .p y, .p d, .p u], .one (.p (.bool true))], [], [], [0]⟩ := by
  have hk : eqInts .i64 (moD m) (moD m) = some true := by rw [eqInts_mo m m rfl]; simp
  have h0 : HFof (mapB ch :: X) 0 = some (mapB ch) := rfl
  simp only [opLookup, h0, lookIn, hf, hk, moD_len, hm, foundV, entC_drop hm]
  rfl
theorem update_none {m : List Nat} (hm : m.length = 8) {ch : List (List DL)} (hf : findC .i64 8 (moD m) ch 0 = some none) (n y d u : PL) (X : List Blk) : opMapUpdate 8 .i64 true 4 (HFof (mapB ch :: X)) [.one (.mp 0), .agg (moD m), .agg [.p n, .p y, .p d, .p u]] =
    some ⟨.tup [], [], [(0, mapB (ch ++ [entC m n y d u]))], [0]⟩ := by
  have hk : eqInts .i64 (moD m) (moD m) = some true := by rw [eqInts_mo m m rfl]; simp
  have h0 : HFof (mapB ch :: X) 0 = some (mapB ch) := rfl
  simp only [opMapUpdate, h0, updIn, hf, hk, moD_len, hm, DV.cells]
  rfl
theorem update_some {m : List Nat} (hm : m.length = 8) {ch : List (List DL)} {i : Nat} {c : List DL} (hf : findC .i64 8 (moD m) ch 0 = some (some (i, c))) (n y d u : PL) (X : List Blk) : opMapUpdate 8 .i64 true 4 (HFof (mapB ch :: X)) [.one (.mp 0), .agg (moD m), .agg [.p n, .p y, .p d, .p u]] =
    some ⟨.tup [], [], [(0, mapB (ch.set i (entC m n y d u)))], [0]⟩ := by
  have hk : eqInts .i64 (moD m) (moD m) = some true := by rw [eqInts_mo m m rfl]; simp
  have h0 : HFof (mapB ch :: X) 0 = some (mapB ch) := rfl
  simp only [opMapUpdate, h0, updIn, hf, hk, moD_len, hm, DV.cells]
  rfl

set_option maxRecDepth 100000 in
set_option maxHeartbeats 4000000 in
/-- A term whose monomial is new. -/
theorem collect_new {E : Oracle} {K : Nat} (hmd : E.mode = md) {n y d u : PL} {m : List Nat} (hm : m.length = 8) {ch : List (List DL)} (hf : findC .i64 8 (moD m) ch 0 = some none) (G : List Blk) :
    ∃ G', evHeapF E K x131 [.one (.mp 0), .agg [.p n, .p y, .p d, .p u], .agg (moD m)] (mapB ch :: G) = some (.tup [], mapB (ch ++ [entC m n y d u]) :: (G ++ G')) := by
  have tm : (moD m).take 8 = moD m := List.take_of_length_le (by rw [moD_len]; omega)
  apply Exists.intro
  simp only [EVS, EVH, EVG, EVN, EVF, reduceIte, Nat.reduceEqDiff, Nat.reduceLeDiff, Nat.reduceAdd, x131, hm, moD_len, tm, lookup_none hm hf, update_none hm hf, List.append_assoc]
  rfl
set_option maxRecDepth 100000 in
set_option maxHeartbeats 4000000 in
/-- A term whose monomial is there. -/
theorem collect_old {E : Oracle} {K : Nat} (hmd : E.mode = md) {n y d u n2 y2 d2 u2 n3 y3 d3 u3 : PL} {m : List Nat} (hm : m.length = 8) {ch : List (List DL)} {i : Nat} (hf : findC .i64 8 (moD m) ch 0 = some (some (i, entC m n2 y2 d2 u2)))
    (ha : E.pure 157 [.agg [n2, y2, d2, u2], .agg [n, y, d, u]] = some (.agg [n3, y3, d3, u3])) (G : List Blk) :
    ∃ G', evHeapF E K x131 [.one (.mp 0), .agg [.p n, .p y, .p d, .p u], .agg (moD m)] (mapB ch :: G) = some (.tup [], mapB (ch.set i (entC m n3 y3 d3 u3)) :: (G ++ G')) := by
  have tm : (moD m).take 8 = moD m := List.take_of_length_le (by rw [moD_len]; omega)
  apply Exists.intro
  simp only [EVS, EVH, EVG, EVN, EVF, reduceIte, Nat.reduceEqDiff, Nat.reduceLeDiff, Nat.reduceAdd, x131, hmd, MDS, hm, moD_len, tm, lookup_some hm hf, update_some hm hf, ha, List.append_assoc]
  rfl

end Go.Proofs.YtidginchkjhobaaGreat

namespace Go.Proofs.YtidginchkjhobaaGreat
open Go.Ev Go.Num

theorem MapR.set {ch : List (List DL)} {ts : List Tm} (h : MapR ch ts) {c : List DL} {t : Tm} (hc : IsE c t) : ∀ i, MapR (ch.set i c) (ts.set i t) := by
  induction h with
  | nil => intro i; exact .nil
  | cons h1 h2 ih =>
    intro i
    cases i with
    | zero => exact .cons hc h2
    | succ i => exact .cons h1 (ih i)
theorem MapR.snoc {ch : List (List DL)} {ts : List Tm} (h : MapR ch ts) {c : List DL} {t : Tm} (hc : IsE c t) : MapR (ch ++ [c]) (ts ++ [t]) := All2.append h (.cons hc .nil)

/-- What a call of collect does to the map. -/
def CollE (E : Oracle) (c : List PL) (m : List Nat) (ch ch' : List (List DL)) : Prop :=
  ∀ G, ∃ G', E.heap 131 [.one (.mp 0), .agg (c.map .p), .agg (moD m)] (mapB ch :: G) = some (.tup [], mapB ch' :: (G ++ G'))

theorem collect_evt {B : Base} (hB : Std B) {ch : List (List DL)} {ts : List Tm} (h : MapR ch ts) {c : List PL} {z : Int} (hc : IsZ c z) {m : List Nat} (hm : MoOk m) (hz : Sm z) (hs : ∀ t ∈ ts, Sm t.1) :
    ∃ ch', MapR ch' (addTo z m ts) ∧ Evt B fun E _ => CollE E c m ch ch' := by
  have hc' := hc
  obtain ⟨n, y, d, u, rfl, hc1, hc2⟩ := hc'
  by_cases he : ∃ t ∈ ts, m = t.2
  · obtain ⟨i, c, t, h1, h2, h3, h4, h5, h6⟩ := find_some hm.1 h he z
    obtain ⟨n2, y2, d2, u2, rfl, q1, q2, q3⟩ := h4
    subst h3
    have hf := h5 0
    rw [Nat.zero_add] at hf
    obtain ⟨e, ha, hz2⟩ := ratAdd_z hB (c := [.bool n2, y2, .bool d2, u2]) (d := [.bool n, y, .bool d, u]) ⟨n2, y2, d2, u2, rfl, q1, q2⟩ ⟨n, y, d, u, rfl, hc1, hc2⟩ (hs t (List.mem_of_getElem? h2)) hz
    obtain ⟨n3, y3, d3, u3, rfl, w1, w2⟩ := hz2
    refine ⟨ch.set i (entC t.2 (.bool n3) y3 (.bool d3) u3), ?_, ?_⟩
    · rw [h6]; exact MapR.set h (t := (t.1 + z, t.2)) ⟨n3, y3, d3, u3, rfl, w1, w2, hm⟩ i
    · obtain ⟨N, hN⟩ := ha.evt
      obtain ⟨M, hM⟩ := hB.evt
      refine ⟨max N M + 1, fun K k hK hk G => ?_⟩
      obtain ⟨k, rfl⟩ : ∃ k', k = k' + 1 := ⟨k - 1, by omega⟩
      obtain ⟨G', g⟩ := collect_old (K := K) (hM K k (by omega) (by omega)) hm.1 hf (hN K k (by omega) (by omega)) G
      refine ⟨G', ?_⟩
      show (match B.X 131 with
        | some xf => evHeapF (B.E K k) K xf [.one (.mp 0), .agg [.p (.bool n), .p y, .p (.bool d), .p u], .agg (moD t.2)] (mapB ch :: G)
        | none => (B.E K k).heap 131 [.one (.mp 0), .agg [.p (.bool n), .p y, .p (.bool d), .p u], .agg (moD t.2)] (mapB ch :: G)) = _
      rw [hB.tab 131 x131 rfl]
      exact g
  · have hn : ∀ t ∈ ts, m ≠ t.2 := fun t ht e => he ⟨t, ht, e⟩
    obtain ⟨hf, h6⟩ := find_none hm.1 h hn z 0
    refine ⟨ch ++ [entC m (.bool n) y (.bool d) u], ?_, ?_⟩
    · rw [h6]; exact MapR.snoc h (t := (z, m)) ⟨n, y, d, u, rfl, hc1, hc2, hm⟩
    · obtain ⟨M, hM⟩ := hB.evt
      refine ⟨M + 1, fun K k hK hk G => ?_⟩
      obtain ⟨k, rfl⟩ : ∃ k', k = k' + 1 := ⟨k - 1, by omega⟩
      obtain ⟨G', g⟩ := collect_new (K := K) (n := .bool n) (y := y) (d := .bool d) (u := u) (hM K k (by omega) (by omega)) hm.1 hf G
      refine ⟨G', ?_⟩
      show (match B.X 131 with
        | some xf => evHeapF (B.E K k) K xf [.one (.mp 0), .agg [.p (.bool n), .p y, .p (.bool d), .p u], .agg (moD m)] (mapB ch :: G)
        | none => (B.E K k).heap 131 [.one (.mp 0), .agg [.p (.bool n), .p y, .p (.bool d), .p u], .agg (moD m)] (mapB ch :: G)) = _
      rw [hB.tab 131 x131 rfl]
      exact g

/-- What the inner loop of Mul meets: a term times each term. -/
inductive MulIn (E : Oracle) (c : List PL) (m : List Nat) : List (List PL) → List (List DL) → List (List DL) → Prop
  | nil {ch : List (List DL)} : MulIn E c m [] ch ch
  | cons {x y z u r1 r2 r3 r4 : PL} {k : List Nat} {qs : List (List PL)} {ch ch1 ch2 : List (List DL)} (hk : MoOk k) (hs : MoOk (addM m k)) (h1 : E.pure 130 [.agg (mo m), .agg (mo k)] = some (.tup [.agg (mo (addM m k)), .one (.int .i64 (.ofNat 0))]))
      (h2 : E.pure 64 [.agg c, .agg [x, y, z, u]] = some (.agg [r1, r2, r3, r4])) (h3 : CollE E [r1, r2, r3, r4] (addM m k) ch ch1) (h : MulIn E c m qs ch1 ch2) : MulIn E c m ((x :: y :: z :: u :: mo k) :: qs) ch ch2
/-- What the outer loop of Mul meets. -/
inductive MulOut (E : Oracle) (qs : List (List PL)) : List (List PL) → List (List DL) → List (List DL) → Prop
  | nil {ch : List (List DL)} : MulOut E qs [] ch ch
  | cons {x y z u : PL} {m : List Nat} {ps : List (List PL)} {ch ch1 ch2 : List (List DL)} (hm : MoOk m) (h1 : MulIn E [x, y, z, u] m qs ch ch1) (h : MulOut E qs ps ch1 ch2) : MulOut E qs ((x :: y :: z :: u :: mo m) :: ps) ch ch2

set_option maxRecDepth 100000 in
set_option maxHeartbeats 4000000 in
theorem mulIn_go {E : Oracle} {K : Nat} {lp lq : PL} (hmd : E.mode = md) {all : List (List PL)} (sl : Sl lq all) (hl : all.length < 1000000) {x y z u : PL} {m : List Nat} (hm8 : m.length = 8) (j : Nat) {o1 o2 : DV} : ∀ (rest : List (List PL)) (ch ch' : List (List DL)), MulIn E [x, y, z, u] m rest ch ch' →
    ∀ (i k : Nat) (G : List Blk), G[j]? = some ⟨false, 0, 12, [.p x :: .p y :: .p z :: .p u :: moD m], false, 75⟩ → all.drop i = rest → i + rest.length = all.length → rest.length < k →
    ∃ T' G', loopK E K 0 [1, 6, 8, 14, 15, 16, 20, 21, 22] x78_1 k ⟨[(1, .one (.p lq)), (6, .one (.mp 0)), (8, .one (.ptr (j + 1) 0 0 0)), (14, .one (.p lp)), (15, o1), (16, o2), (20, .one (.p lq)), (21, .one (.p (.int .i64 (.ofNat all.length)))), (22, .one (.p (.int .i64 (.ofNat i))))], mapB ch :: G⟩ =
        some (.exit 2, ⟨T', mapB ch' :: G'⟩) ∧ getT T' 1 = some (.one (.p lq)) ∧ getT T' 6 = some (.one (.mp 0)) ∧ getT T' 14 = some (.one (.p lp)) ∧ getT T' 15 = some o1 ∧ getT T' 16 = some o2 := by
  intro rest ch ch' h
  induction h with
  | @nil ch =>
    intro i k G hj hd hi hk
    obtain ⟨k, rfl⟩ : ∃ k', k = k' + 1 := ⟨k - 1, by omega⟩
    have hlt : ¬ i < all.length := by simp at hi; omega
    apply ex2
    · rw [loopK]
      simp only [EVS, EVN, reduceIte, Nat.reduceEqDiff, x78_1, hlt]
      rfl
    · simp only [EVS, reduceIte, Nat.reduceEqDiff, and_self]
  | @cons x2 y2 z2 u2 r1 r2 r3 r4 kk qs ch ch1 ch2 hk hs h1 h2 h3 h ih =>
    intro i k G hj hd hi hkk
    obtain ⟨k, rfl⟩ : ∃ k', k = k' + 1 := ⟨k - 1, by omega⟩
    simp only [List.length_cons] at hi hkk
    have hlt : i < all.length := by omega
    obtain ⟨gq, dq⟩ := drop_cons_get hd
    have iq := fun (hh : HF) (kd : IntKind) => sl.idx (h := hh) (k := kd) (sz := 12) gq (by simp [mo_len, hk.1])
    have f1 : wrapF .i64 (.ofNat (i + 1)) = .ofNat (i + 1) := wrap_i64 (by omega)
    have hk8 := hk.1
    have hs8 := hs.1
    have t1 : (moD m).take 8 = moD m := List.take_of_length_le (by rw [moD_len]; omega)
    have t2 : (moD kk).take 8 = moD kk := List.take_of_length_le (by rw [moD_len]; omega)
    have t3 : (moD (addM m kk)).take 8 = moD (addM m kk) := List.take_of_length_le (by rw [moD_len]; omega)
    have d1 : (moD m).drop 8 = [] := List.drop_eq_nil_of_le (by rw [moD_len]; omega)
    have d2 : (moD kk).drop 8 = [] := List.drop_eq_nil_of_le (by rw [moD_len]; omega)
    have d3 : (moD (addM m kk)).drop 8 = [] := List.drop_eq_nil_of_le (by rw [moD_len]; omega)
    have hjl : j < G.length := (List.getElem?_eq_some_iff.1 hj).1
    have gj : ∀ L : List Blk, (G ++ L)[j]? = some ⟨false, 0, 12, [.p x :: .p y :: .p z :: .p u :: moD m], false, 75⟩ := fun L => by rw [List.getElem?_append_left hjl]; exact hj
    obtain ⟨G1, g3⟩ := h3 (G ++ [⟨false, 0, 12, [.p x2 :: .p y2 :: .p z2 :: .p u2 :: moD kk], false, 75⟩, ⟨false, 0, 8, [moD (addM m kk)], false, 73⟩])
    simp only [List.map_cons, List.map_nil] at g3
    obtain ⟨T', G', g1, g2⟩ := ih (i + 1) k (G ++ ([⟨false, 0, 12, [.p x2 :: .p y2 :: .p z2 :: .p u2 :: moD kk], false, 75⟩, ⟨false, 0, 8, [moD (addM m kk)], false, 73⟩] ++ G1)) (gj _) dq (by omega) (by omega)
    refine ⟨T', G', ?_, g2⟩
    have ab : allBelow [0, 6, 5, 2, 4, 1, 3] 7 = true := rfl
    have n1 : ¬ G.length + 2 + 1 ≤ j + 1 := by omega
    have n2 : ¬ G.length + 2 + 1 ≤ G.length + 1 := by omega
    have n3 : ¬ G.length + 2 + 1 ≤ G.length + 1 + 1 := by omega
    rw [loopK]
    simp only [EVS, EVH, EVG, ite_self, ab, n1, n2, n3, EVN, EVF, reduceIte, Nat.reduceEqDiff, Nat.reduceLeDiff, Nat.reduceAdd, x78_1, hlt, iq, gj, mo_D, moD_len, hk8, hs8, hm8, t1, t2, t3, frz_moD, ids_moD, hmd, MDS, h1, h2, g3, f1]
    rw [List.append_assoc]
    exact g1

set_option maxRecDepth 100000 in
set_option maxHeartbeats 4000000 in
theorem mulOut_go {E : Oracle} {K : Nat} {lp lq : PL} (hmd : E.mode = md) {all qs : List (List PL)} (sp : Sl lp all) (sq : Sl lq qs) (hl : all.length < 1000000) (hlq : qs.length < 1000000) (hK : qs.length < K) : ∀ (rest : List (List PL)) (ch ch' : List (List DL)), MulOut E qs rest ch ch' →
    ∀ (i k : Nat) (G : List Blk), all.drop i = rest → i + rest.length = all.length → rest.length < k →
    ∃ T' G', loopK E K 0 [1, 6, 14, 15, 16] x78_2 k ⟨[(1, .one (.p lq)), (6, .one (.mp 0)), (14, .one (.p lp)), (15, .one (.p (.int .i64 (.ofNat all.length)))), (16, .one (.p (.int .i64 (.ofNat i))))], mapB ch :: G⟩ =
        some (.exit 0, ⟨T', mapB ch' :: G'⟩) ∧ getT T' 6 = some (.one (.mp 0)) := by
  intro rest ch ch' h
  induction h with
  | @nil ch =>
    intro i k G hd hi hk
    obtain ⟨k, rfl⟩ : ∃ k', k = k' + 1 := ⟨k - 1, by omega⟩
    have hlt : ¬ i < all.length := by simp at hi; omega
    apply ex2
    · rw [loopK]
      simp only [EVS, EVN, reduceIte, Nat.reduceEqDiff, x78_2, hlt]
      rfl
    · simp only [EVS, reduceIte, Nat.reduceEqDiff]
  | @cons x y z u m ps ch ch1 ch2 hm h1 h ih =>
    intro i k G hd hi hkk
    obtain ⟨k, rfl⟩ : ∃ k', k = k' + 1 := ⟨k - 1, by omega⟩
    simp only [List.length_cons] at hi hkk
    have hlt : i < all.length := by omega
    obtain ⟨gp, dp⟩ := drop_cons_get hd
    have ip := fun (hh : HF) (kd : IntKind) => sp.idx (h := hh) (k := kd) (sz := 12) gp (by simp [mo_len, hm.1])
    have f1 : wrapF .i64 (.ofNat (i + 1)) = .ofNat (i + 1) := wrap_i64 (by omega)
    have hm8 := hm.1
    have t1 : (moD m).take 8 = moD m := List.take_of_length_le (by rw [moD_len]; omega)
    have d1 : (moD m).drop 8 = [] := List.drop_eq_nil_of_le (by rw [moD_len]; omega)
    obtain ⟨T1, G1, g1, g2, g3, g4, g5, g6⟩ := mulIn_go (K := K) (lp := lp) hmd sq hlq hm8 G.length (o1 := .one (.p (.int .i64 (.ofNat all.length)))) (o2 := .one (.p (.int .i64 (.ofNat i)))) qs ch ch1 h1 0 K (G ++ [⟨false, 0, 12, [.p x :: .p y :: .p z :: .p u :: moD m], false, 75⟩]) (by simp) (by simp) (by simp) hK
    obtain ⟨T', G', q1, q2⟩ := ih (i + 1) k G1 dp (by omega) (by omega)
    refine ⟨T', G', ?_, q2⟩
    rw [loopK]
    simp only [EVS, EVG, EVN, EVF, reduceIte, Nat.reduceEqDiff, Nat.reduceLeDiff, Nat.reduceAdd, x78_2, hlt, ip, mo_D, moD_len, hm8, t1, sq.len, g1, g2, g3, g4, g5, g6, f1]
    exact q1

/-- Bases that answer the library's sort and the sorted terms of a map. -/
structure StdS (B : Base) : Prop extends Std B where
  sorted : ∀ args H r, sortedAns args H = some r → B.E0.heap 132 args H = some r

end Go.Proofs.YtidginchkjhobaaGreat

namespace Go.Proofs.YtidginchkjhobaaGreat
open Go.Ev Go.Num

/-! ### plain facts -/
theorem addTo_pair (z : Int) (m : List Nat) (φ : List Nat → Int) : ∀ ts, pair (addTo z m ts) φ = pair ts φ + z * φ m
  | [] => by simp [addTo, pair]
  | t :: ts => by
    unfold addTo
    split
    · rename_i e; subst e; simp only [pair]; rw [Int.add_mul]; omega
    · simp only [pair, addTo_pair z m φ ts]; omega
theorem addTo_keys (z : Int) (m : List Nat) : ∀ ts, ((addTo z m ts).map (·.2)) = ts.map (·.2) ∨ (m ∉ ts.map (·.2) ∧ (addTo z m ts).map (·.2) = ts.map (·.2) ++ [m])
  | [] => .inr ⟨by simp, rfl⟩
  | t :: ts => by
    unfold addTo
    split
    · rename_i e; subst e; exact .inl rfl
    · rename_i e
      rcases addTo_keys z m ts with h | ⟨h1, h2⟩
      · exact .inl (by simp [h])
      · exact .inr ⟨by simp; exact ⟨e, by simpa using h1⟩, by simp [h2]⟩
theorem addTo_nodup {z : Int} {m : List Nat} {ts : List Tm} (h : (ts.map (·.2)).Nodup) : ((addTo z m ts).map (·.2)).Nodup := by
  rcases addTo_keys z m ts with h1 | ⟨h1, h2⟩
  · rw [h1]; exact h
  · rw [h2, List.nodup_append]
    refine ⟨h, by simp, fun a ha b hb => ?_⟩
    simp at hb; subst hb
    intro e; exact h1 (e ▸ ha)
theorem addTo_bd {z : Int} {m : List Nat} {c b : Nat} (hz : z.natAbs ≤ b) : ∀ {ts : List Tm}, Bd c ts → Bd (c + b) (addTo z m ts)
  | [], _ => by intro t ht; simp [addTo] at ht; subst ht; simp only []; omega
  | u :: ts, h => by
    have h1 := h u (List.mem_cons_self ..)
    have h2 : Bd c ts := fun t ht => h t (List.mem_cons_of_mem _ ht)
    unfold addTo
    split
    · intro t ht
      rcases List.mem_cons.1 ht with rfl | ht
      · simp only []; omega
      · have := h2 t ht; omega
    · intro t ht
      rcases List.mem_cons.1 ht with rfl | ht
      · omega
      · exact addTo_bd hz h2 t ht
theorem addTo_len (z : Int) (m : List Nat) : ∀ ts : List Tm, (addTo z m ts).length ≤ ts.length + 1
  | [] => by simp [addTo]
  | t :: ts => by
    unfold addTo
    split
    · simp
    · have := addTo_len z m ts; simp; omega
/-- A term times a polynomial, into a map; a product, into a map. -/
def inT (z : Int) (m : List Nat) : List Tm → List Tm → List Tm
  | [], acc => acc
  | u :: us, acc => inT z m us (addTo (z * u.1) (addM m u.2) acc)
def outT (us : List Tm) : List Tm → List Tm → List Tm
  | [], acc => acc
  | t :: ts, acc => outT us ts (inT t.1 t.2 us acc)
theorem inT_pair (z : Int) (m : List Nat) (φ : List Nat → Int) : ∀ (us acc : List Tm), pair (inT z m us acc) φ = pair acc φ + z * pair us fun k => φ (addM m k)
  | [], acc => by simp [inT, pair]
  | u :: us, acc => by
    simp only [inT, inT_pair z m φ us, addTo_pair, pair]
    rw [Int.mul_add, Int.mul_assoc]; omega
theorem outT_pair (us : List Tm) (φ : List Nat → Int) : ∀ (ts acc : List Tm), pair (outT us ts acc) φ = pair acc φ + pair ts fun m => pair us fun k => φ (addM m k)
  | [], acc => by simp [outT, pair]
  | t :: ts, acc => by
    simp only [outT, outT_pair us φ ts, inT_pair, pair]; omega
theorem inT_nodup {z : Int} {m : List Nat} : ∀ {us acc : List Tm}, (acc.map (·.2)).Nodup → ((inT z m us acc).map (·.2)).Nodup
  | [], _, h => h
  | _ :: us, _, h => inT_nodup (us := us) (addTo_nodup h)
theorem outT_nodup {us : List Tm} : ∀ {ts acc : List Tm}, (acc.map (·.2)).Nodup → ((outT us ts acc).map (·.2)).Nodup
  | [], _, h => h
  | _ :: ts, _, h => outT_nodup (ts := ts) (inT_nodup h)
theorem inT_bd {z : Int} {m : List Nat} {a b : Nat} (hz : z.natAbs ≤ a) : ∀ {us acc : List Tm} {c : Nat}, Bd b us → Bd c acc → Bd (c + us.length * (a * b)) (inT z m us acc)
  | [], _, _, _, h => by simpa [inT] using h
  | u :: us, acc, c, hb, h => by
    have h1 : (z * u.1).natAbs ≤ a * b := by rw [Int.natAbs_mul]; exact Nat.mul_le_mul hz (hb u (List.mem_cons_self ..))
    have := inT_bd (us := us) (m := m) hz (fun t ht => hb t (List.mem_cons_of_mem _ ht)) (addTo_bd (m := addM m u.2) h1 h)
    simp only [inT, List.length_cons, Nat.add_mul, Nat.one_mul]
    rw [show c + (us.length * (a * b) + a * b) = c + a * b + us.length * (a * b) by omega]
    exact this
theorem inT_len {z : Int} {m : List Nat} : ∀ (us acc : List Tm), (inT z m us acc).length ≤ acc.length + us.length
  | [], _ => by simp [inT]
  | u :: us, acc => by
    have h1 := inT_len (z := z) (m := m) us (addTo (z * u.1) (addM m u.2) acc)
    have h2 := addTo_len (z * u.1) (addM m u.2) acc
    simp only [inT, List.length_cons]; omega

/-- Sorted terms, strictly. -/
theorem dec_of : ∀ {ts : List Tm}, (∀ t ∈ ts, t.1 ≠ 0) → ts.Pairwise (fun t u => cmpL t.2 u.2 = .ofNat 1) → Dec ts
  | [], _, _ => trivial
  | [t], h, _ => h t (List.mem_cons_self ..)
  | t :: u :: ts, h, hp => by
    obtain ⟨h1, h2⟩ := List.pairwise_cons.1 hp
    exact ⟨h t (List.mem_cons_self ..), h1 u (List.mem_cons_self ..), dec_of (fun x hx => h x (List.mem_cons_of_mem _ hx)) h2⟩
theorem pair_perm {ts us : List Tm} (h : ts.Perm us) (φ : List Nat → Int) : pair ts φ = pair us φ := by
  induction h with
  | nil => rfl
  | cons t _ ih => simp only [pair, ih]
  | swap t u l => simp only [pair]; omega
  | trans _ _ ih1 ih2 => rw [ih1, ih2]
theorem pair_filter (φ : List Nat → Int) : ∀ ts : List Tm, pair (ts.filter fun t => t.1 != 0) φ = pair ts φ
  | [] => rfl
  | t :: ts => by
    by_cases h : t.1 = 0
    · rw [List.filter_cons_of_neg (by simp [h])]
      simp only [pair, h, pair_filter φ ts]; simp
    · rw [List.filter_cons_of_pos (by simp [h])]
      simp only [pair, pair_filter φ ts]
theorem all2_perm {α β : Type} {R : α → β → Prop} {xs xs' : List α} (hp : xs'.Perm xs) : ∀ {ys : List β}, All2 R xs ys → ∃ ys', All2 R xs' ys' ∧ ys'.Perm ys := by
  induction hp with
  | nil => intro ys h; exact ⟨ys, h, .refl _⟩
  | cons x _ ih =>
    intro ys h
    cases h with | cons h1 h2 => ?_
    obtain ⟨ys', g1, g2⟩ := ih h2
    exact ⟨_, .cons h1 g1, g2.cons _⟩
  | swap x y l =>
    intro ys h
    cases h with | cons h1 h2 => ?_
    cases h2 with | cons h2 h3 => ?_
    exact ⟨_, .cons h2 (.cons h1 h3), .swap ..⟩
  | trans _ _ ih1 ih2 =>
    intro ys h
    obtain ⟨ys', g1, g2⟩ := ih2 h
    obtain ⟨ys'', g3, g4⟩ := ih1 g1
    exact ⟨ys'', g3, g4.trans g2⟩
theorem all2_filter {α β : Type} {R : α → β → Prop} {p : α → Bool} {q : β → Bool} (hpq : ∀ x y, R x y → p x = q y) {xs : List α} {ys : List β} (h : All2 R xs ys) : All2 R (xs.filter p) (ys.filter q) := by
  induction h with
  | nil => exact .nil
  | @cons x y xs ys h1 h2 ih =>
    have := hpq _ _ h1
    cases hp : p x with
    | true => rw [List.filter_cons_of_pos hp, List.filter_cons_of_pos (this ▸ hp)]; exact .cons h1 ih
    | false => rw [List.filter_cons_of_neg (by simp [hp]), List.filter_cons_of_neg (by simp [← this, hp])]; exact ih

/-! ### what a map with terms answers -/
theorem isT_nz {c : List PL} {t : Tm} (h : IsT c t) : nz c = (t.1 != 0) := by
  obtain ⟨n, a, d, b, rfl, ⟨q, e1, h1⟩, -, -⟩ := h
  simp only [List.cons.injEq, PL.bool.injEq, and_true] at e1
  obtain ⟨-, rfl⟩ := e1
  rcases h1 with e | ⟨e, rfl⟩
  · subst e
    by_cases h0 : t.1 = 0
    · simp [h0, wsP, words_zero, nz]
    · have : t.1.natAbs ≠ 0 := by omega
      rw [words_pos this]
      simp [wsP, nz, h0]
  · have hw : wordsOf t.1.natAbs = [] := by simpa [wsP] using e
    have : t.1.natAbs = 0 := words_len0.1 (by rw [hw]; rfl)
    have : t.1 = 0 := by omega
    simp [this, nz]
theorem entT_isE {c : List DL} {t : Tm} (h : IsE c t) : ∃ e, entT c = some e ∧ IsT e t ∧ monM e = t.2 := by
  obtain ⟨n, y, d, u, rfl, h1, h2, h3⟩ := h
  have hb := unP_map (mo t.2 ++ [PL.bool n, y, .bool d, u])
  have he : entC t.2 (.bool n) y (.bool d) u = (mo t.2 ++ [PL.bool n, y, .bool d, u]).map DL.p := by simp [entC, moD, mo]
  have tk : (mo t.2 ++ [PL.bool n, y, .bool d, u]).take 8 = mo t.2 := by rw [List.take_append_of_le_length (by rw [mo_len]; have := h3.1; omega), List.take_of_length_le (by rw [mo_len]; have := h3.1; omega)]
  have dk : (mo t.2 ++ [PL.bool n, y, .bool d, u]).drop 8 = [.bool n, y, .bool d, u] := by
    rw [List.drop_append_of_le_length (by rw [mo_len]; have := h3.1; omega), List.drop_eq_nil_of_le (by rw [mo_len]; have := h3.1; omega)]; rfl
  have ht : isTerm (PL.bool n :: y :: .bool d :: u :: mo t.2) = true := by unfold isTerm; rw [monO_term h3]; rfl
  refine ⟨.bool n :: y :: .bool d :: u :: mo t.2, ?_, ⟨n, y, d, u, rfl, h1, h2, h3⟩, monM_term h3⟩
  have hy : y = .nilS ∨ ∃ es, y = .lst es := by
    obtain ⟨m, e, h1⟩ := h1
    simp only [List.cons.injEq, and_true] at e
    obtain ⟨-, rfl⟩ := e
    rcases h1 with e | ⟨-, e⟩
    · exact .inr ⟨_, e⟩
    · exact .inl e
  rcases hy with rfl | ⟨es, rfl⟩ <;> simp only [entT, he, hb, dk, tk, ht, cond_true]
theorem entT_all {ch : List (List DL)} {ts : List Tm} (h : MapR ch ts) : ∃ cs, mapO entT ch = some cs ∧ All2 (fun c t => IsT c t ∧ monM c = t.2) cs ts := by
  induction h with
  | nil => exact ⟨[], rfl, .nil⟩
  | cons h1 _ ih =>
    obtain ⟨cs, g1, g2⟩ := ih
    obtain ⟨e, h2, h3, h4⟩ := entT_isE h1
    exact ⟨e :: cs, by simp only [mapO, h2, g1], .cons ⟨h3, h4⟩ g2⟩

theorem cs_noDup {cs : List (List PL)} {ts : List Tm} (h : All2 (fun c t => IsT c t ∧ monM c = t.2) cs ts) (hn : (ts.map (·.2)).Nodup) : noDup cs = true := by
  induction h with
  | nil => rfl
  | @cons c t cs ts h1 h2 ih =>
    simp only [List.map_cons, List.nodup_cons] at hn
    simp only [noDup, Bool.and_eq_true, List.all_eq_true, Bool.not_eq_true']
    refine ⟨fun d hd => ?_, ih hn.2⟩
    cases he : eqLs Nat.beq (monM c) (monM d) with
    | false => rfl
    | true =>
      exfalso
      have e : monM c = monM d := eqLs_eq (fun x y h => Nat.eq_of_beq_eq_true h) _ _ he
      obtain ⟨i, hi⟩ := List.mem_iff_getElem?.1 hd
      have hil : i < ts.length := by rw [← h2.length]; exact (List.getElem?_eq_some_iff.1 hi).1
      obtain ⟨d', hd', -, hm⟩ := h2.get i _ (List.getElem?_eq_getElem hil)
      rw [hi] at hd'; cases hd'
      refine hn.1 (List.mem_map.2 ⟨ts[i], List.getElem_mem hil, ?_⟩)
      rw [← hm, ← e, h1.2]

/-- The sorted terms of a map with these terms. -/
theorem sorted_terms {ch : List (List DL)} {ts : List Tm} (h : MapR ch ts) (hn : (ts.map (·.2)).Nodup) (hl : ts.length < 60000) :
    ∃ os us, (∀ G, sortedAns [.one (.mp 0)] (mapB ch :: G) = some (.one (.p (.lst os)), (mapB ch :: G).map frzB)) ∧ PolyR os us ∧ Dec us ∧ us.Perm (ts.filter fun t => t.1 != 0) := by
  obtain ⟨cs, h1, h2⟩ := entT_all h
  have hnd := cs_noDup h2 hn
  have hte := entT_terms h1
  have hlc : cs.length = ts.length := h2.length
  have hlch : ch.length = ts.length := h.length
  have hf := all2_filter (p := nz) (q := fun t => t.1 != 0) (fun c t hc => isT_nz hc.1) h2
  obtain ⟨us, g1, g2⟩ := all2_perm (isort_perm (cs.filter nz)) hf
  have hl2 : Nat.blt ch.length 60000 = true := blt_t (by omega)
  have hnd2 := noDup_sub hnd (List.filter_sublist (p := nz))
  have hte2 : Terms (cs.filter nz) := fun c hc => hte c (List.mem_filter.1 hc).1
  have hso := isort_sorted hte2
  have hnd3 := noDup_perm hnd2 (isort_perm _)
  have hte3 := isort_terms hte2
  refine ⟨isort (cs.filter nz), us, fun G => ?_, g1.imp fun _ _ h => h.1, ?_, g2⟩
  · have h0 : (mapB ch :: G)[0]? = some (mapB ch) := rfl
    simp only [sortedAns, h0, Nat.beq_refl, hl2, h1, hnd, Bool.and_self, cond_true]
    rfl
  · refine dec_of (fun t ht => by simpa using (List.mem_filter.1 (g2.mem_iff.1 ht)).2) ?_
    have hndp : (isort (cs.filter nz)).Pairwise fun x y => monM x ≠ monM y := by
      have h4 := noDup_nodup hnd3
      have h5 := noDup_spec hnd3
      rw [List.nodup_iff_pairwise_ne] at h4
      exact h4.imp_of_mem fun hx hy hne e => hne (h5 _ hx _ hy e)
    have hall : (isort (cs.filter nz)).Pairwise fun x y => cmpL (monM x) (monM y) = .ofNat 1 := by
      refine (hso.and hndp).imp_of_mem fun {x y} hx hy ⟨a1, a2⟩ => ?_
      rcases cmpL_cases (monM x) (monM y) with h | h | h
      · exact h
      · exact absurd (show cmpS y x < 0 by unfold cmpS; rw [cmpL_neg_iff]; exact h) a1
      · exfalso
        obtain ⟨_, _, _, _, -, l1, -⟩ := isTerm_spec (hte3 x hx)
        obtain ⟨_, _, _, _, -, l2, -⟩ := isTerm_spec (hte3 y hy)
        exact a2 (cmpL_zero (by omega) h)
    clear hso hndp g2 hnd3 hte3
    generalize isort (cs.filter nz) = xs at g1 hall
    induction g1 with
    | nil => exact .nil
    | @cons x t xs us hx hxs ih =>
      obtain ⟨p1, p2⟩ := List.pairwise_cons.1 hall
      refine List.pairwise_cons.2 ⟨fun u hu => ?_, ih p2⟩
      obtain ⟨i, hi⟩ := List.mem_iff_getElem?.1 hu
      obtain ⟨y, hy, -, hm⟩ := hxs.get i u hi
      have := p1 y (List.mem_of_getElem? hy)
      rwa [hx.2, hm] at this

end Go.Proofs.YtidginchkjhobaaGreat

namespace Go.Proofs.YtidginchkjhobaaGreat
open Go.Ev Go.Num

theorem Bd.sm {b : Nat} (hb : b < 4294967296) {ts : List Tm} (h : Bd b ts) : ∀ t ∈ ts, Sm t.1 := fun t ht => S31.sm (by have := h t ht; unfold S31; omega)

theorem mulIn_evt {B : Base} (hB : Std B) {c : List PL} {z : Int} (hc : IsZ c z) {m : List Nat} (hm : MoOk m) {a b : Nat} (hz : z.natAbs ≤ a) (ha : a < 65536) (hb2 : b < 65536) : ∀ {qs : List (List PL)} {us : List Tm}, PolyR qs us → Bd b us → (∀ u ∈ us, MoOk (addM m u.2)) →
    ∀ {ch : List (List DL)} {acc : List Tm} {d : Nat}, MapR ch acc → Bd d acc → d + us.length * (a * b) < 4294967296 → ∃ ch', MapR ch' (inT z m us acc) ∧ Evt B fun E _ => MulIn E c m qs ch ch' := by
  intro qs us h
  induction h with
  | nil => intro _ _ ch acc d hr _ _; exact ⟨ch, hr, Evt.of fun _ _ => .nil⟩
  | @cons q u qs us hu h ih =>
    intro hb hk ch acc d hr hd hsum
    have hu' := hu
    obtain ⟨x, y, w, v, rfl, p1, p2, p3⟩ := hu'
    have hbu := hb u (List.mem_cons_self ..)
    have hku := hk u (List.mem_cons_self ..)
    simp only [List.length_cons, Nat.add_mul, Nat.one_mul] at hsum
    have hzu : (z * u.1).natAbs ≤ a * b := by rw [Int.natAbs_mul]; exact Nat.mul_le_mul hz hbu
    have g1 := monoMul_ret hB hm p3 hku
    obtain ⟨e, g2, hr2⟩ := ratMul_z hB hc (d := [.bool x, y, .bool w, v]) ⟨x, y, w, v, rfl, p1, p2⟩ (S31.sm (by unfold S31; omega)) (S31.sm (by unfold S31; omega))
    obtain ⟨ch1, h1, h2⟩ := collect_evt hB hr hr2 hku (S31.sm (by unfold S31; omega)) (Bd.sm (by omega) hd)
    obtain ⟨ch2, h3, h4⟩ := ih (fun t ht => hb t (List.mem_cons_of_mem _ ht)) (fun t ht => hk t (List.mem_cons_of_mem _ ht)) h1 (addTo_bd (m := addM m u.2) hzu hd) (by omega)
    obtain ⟨r1, r2, r3, r4, rfl, -, -⟩ := hr2
    exact ⟨ch2, h3, (h4.and (h2.and (g1.evt.and g2.evt))).mono fun E K ⟨e1, e2, e3, e4⟩ => .cons p3 hku e3 e4 e2 e1⟩

theorem mulOut_evt {B : Base} (hB : Std B) {qs : List (List PL)} {us : List Tm} (hq : PolyR qs us) {a b : Nat} (hb : Bd b us) (ha2 : a < 65536) (hb2 : b < 65536) : ∀ {ps : List (List PL)} {ts : List Tm}, PolyR ps ts → Bd a ts → (∀ t ∈ ts, ∀ u ∈ us, MoOk (addM t.2 u.2)) →
    ∀ {ch : List (List DL)} {acc : List Tm} {d : Nat}, MapR ch acc → Bd d acc → d + ts.length * (us.length * (a * b)) < 4294967296 →
    ∃ ch', MapR ch' (outT us ts acc) ∧ Bd (d + ts.length * (us.length * (a * b))) (outT us ts acc) ∧ Evt B fun E _ => MulOut E qs ps ch ch' := by
  intro ps ts h
  induction h with
  | nil => intro _ _ ch acc d hr hd _; exact ⟨ch, hr, by simpa [outT] using hd, Evt.of fun _ _ => .nil⟩
  | @cons p t ps ts ht h ih =>
    intro ha hk ch acc d hr hd hsum
    have ht' := ht
    obtain ⟨x, y, w, v, rfl, p1, p2, p3⟩ := ht'
    have hta := ha t (List.mem_cons_self ..)
    simp only [List.length_cons, Nat.add_mul, Nat.one_mul] at hsum ⊢
    obtain ⟨ch1, h1, h2⟩ := mulIn_evt hB (c := [.bool x, y, .bool w, v]) ⟨x, y, w, v, rfl, p1, p2⟩ p3 hta ha2 hb2 hq hb (hk t (List.mem_cons_self ..)) hr hd (by omega)
    have hd1 := inT_bd (m := t.2) hta hb hd
    obtain ⟨ch2, h3, h4, h5⟩ := ih (fun t ht => ha t (List.mem_cons_of_mem _ ht)) (fun t ht => hk t (List.mem_cons_of_mem _ ht)) h1 hd1 (by omega)
    refine ⟨ch2, h3, ?_, (h5.and h2).mono fun E K ⟨e1, e2⟩ => .cons p3 e2 e1⟩
    rw [show d + (ts.length * (us.length * (a * b)) + us.length * (a * b)) = d + us.length * (a * b) + ts.length * (us.length * (a * b)) by omega]
    exact h4

theorem outT_len {us : List Tm} : ∀ (ts acc : List Tm), (outT us ts acc).length ≤ acc.length + ts.length * us.length
  | [], _ => by simp [outT]
  | t :: ts, acc => by
    have h1 := outT_len (us := us) ts (inT t.1 t.2 us acc)
    have h2 := inT_len (z := t.1) (m := t.2) us acc
    simp only [outT, List.length_cons, Nat.add_mul, Nat.one_mul]; omega

set_option maxRecDepth 100000 in
set_option maxHeartbeats 4000000 in
theorem polyMul_ret {B : Base} (hB : StdS B) {lp lq : PL} {ts us : List Tm} (hp : PolyS lp ts) (hq : PolyS lq us) {a b : Nat} (ha : Bd a ts) (hb : Bd b us) (ha2 : a < 65536) (hb2 : b < 65536) (hz : ∀ t ∈ ts, ∀ u ∈ us, MoOk (addM t.2 u.2)) (hsum : ts.length * (us.length * (a * b)) < 4294967296) (hl : ts.length * us.length < 60000) (l1 : ts.length < 1000) (l2 : us.length < 1000) :
    ∃ os ws, Ret B 78 [.one lp, .one lq] (.tup [.one (.lst os), .one (.int .i64 (.ofNat 0))]) ∧ PolyR os ws ∧ Dec ws ∧ ws.Perm ((outT us ts []).filter fun t => t.1 != 0) ∧ Bd (ts.length * (us.length * (a * b))) ws := by
  obtain ⟨ps, sp, hps⟩ := hp
  obtain ⟨qs, sq, hqs⟩ := hq
  have elp := hps.length
  have elq := hqs.length
  obtain ⟨ch, h1, h2, h3⟩ := mulOut_evt hB.toStd hqs hb ha2 hb2 hps ha hz (ch := []) (acc := []) (d := 0) .nil (fun _ h => by cases h) (by omega)
  have hlen := outT_len (us := us) ts []
  have hnd : ((outT us ts []).map (·.2)).Nodup := outT_nodup (by simp)
  obtain ⟨os, ws, g1, g2, g3, g4⟩ := sorted_terms h1 hnd (by simp at hlen; omega)
  have hso : Evt B fun E _ => ∀ G, E.heap 132 [.one (.mp 0)] (mapB ch :: G) = some (.one (.p (.lst os)), (mapB ch :: G).map frzB) := by
    exact ⟨0, fun K n _ _ G => (B.E_le (K := 0) (n := 0) (Nat.zero_le K) (Nat.zero_le n)).heap _ _ _ _ (hB.sorted _ _ _ (g1 G))⟩
  refine ⟨os, ws, Ret.of (hB.toStd.tab _ _ rfl) ((h3.and (hso.and (hB.toStd.evt.and (Evt.ge (ps.length + qs.length + 1))))).mono fun E K ⟨e1, e2, hmd, hK⟩ => ?_), g2, g3, g4, ?_⟩
  · obtain ⟨T', G', k1, k2⟩ := mulOut_go (K := K) hmd sp sq (by omega) (by omega) (by omega) ps [] ch e1 0 K [] (by simp) (by simp) (by omega)
    have hmk : opMakeMap 8 true 0 [] = some ⟨.one (.mp 0), [mapB []], [], []⟩ := rfl
    simp only [EVS, EVH, EVN, hmk, reduceIte, Nat.reduceEqDiff, Nat.reduceLeDiff, Nat.reduceAdd, x78, sp.len, k1, k2, e2, hmd, MDS]
  · intro t ht
    have := h2 t (List.mem_filter.1 (g4.mem_iff.1 ht)).1
    omega

end Go.Proofs.YtidginchkjhobaaGreat
