/- Polynomials of the reference: Times. -/
import Derived.Test.YtidginchkjhobaaGreatMon
namespace Go.Proofs.YtidginchkjhobaaGreat
open Go.Ev Go.Num

/-- A term in its cells. -/
def IsT (c : List PL) (t : Int × List Nat) : Prop := ∃ n a d b, c = .bool n :: a :: .bool d :: b :: mo t.2 ∧ IsI [.bool n, a] t.1 ∧ IsI [.bool d, b] 1 ∧ MoOk t.2
/-- A polynomial in its cells. -/
abbrev PolyR (es : List (List PL)) (ts : List (Int × List Nat)) : Prop := All2 IsT es ts

def pc (es : List (List PL)) : List (List DL) := es.map (·.map .p)
theorem pc_len (es : List (List PL)) : (pc es).length = es.length := by simp [pc]
theorem pc_snoc (es : List (List PL)) (x y z u : PL) (m : List Nat) : pc es ++ [.p x :: .p y :: .p z :: .p u :: moD m] = pc (es ++ [x :: y :: z :: u :: mo m]) := by
  simp [pc, moD, mo]
theorem frz_moD (n : Nat) (h : HF) : ∀ (m : List Nat), mapO (freezeL n h) (moD m) = some (mo m)
  | [] => rfl
  | e :: m => by
    have := frz_moD n h m
    simp only [moD, mo] at this
    simp only [moD, mo, List.map_cons, mapO, frzL0, this]
theorem ids_moD (n : Nat) (h : HF) : ∀ (m : List Nat), (moD m).flatMap (idsL n h) = []
  | [] => rfl
  | e :: m => by
    have := ids_moD n h m
    simp only [moD] at this
    simp only [moD, List.map_cons, List.flatMap_cons, idsL0, this, List.append_nil]
theorem scal_mo (m : List Nat) : (mo m).all PL.scalar = true := by simp [mo, PL.scalar]

/-- What Times meets, term by term. -/
inductive TimesR (E : Oracle) (c : List PL) (m : List Nat) : List (List PL) → List (List PL) → Prop
  | nil : TimesR E c m [] []
  | cons {x y z u : PL} {k : List Nat} {r1 r2 r3 r4 : PL} {es outs : List (List PL)} (hk : MoOk k) (hs : MoOk (addM m k)) (h1 : E.pure 90 [.agg (mo m), .agg (mo k)] = some (.tup [.agg (mo (addM m k)), .one (.int .i64 (.ofNat 0))]))
      (h2 : E.pure 91 [.agg c, .agg [x, y, z, u]] = some (.agg [r1, r2, r3, r4])) (h : TimesR E c m es outs) : TimesR E c m ((x :: y :: z :: u :: mo k) :: es) ((r1 :: r2 :: r3 :: r4 :: mo (addM m k)) :: outs)

set_option maxRecDepth 100000 in
set_option maxHeartbeats 4000000 in
theorem times_go {E : Oracle} {K : Nat} {l : PL} {c1 c2 c3 c4 : PL} {m : List Nat} (hm8 : m.length = 8) (hmd : E.mode = md) {all : List (List PL)} (sl : Sl l all) (hl : all.length < 1000000) : ∀ (rest outs : List (List PL)), TimesR E [c1, c2, c3, c4] m rest outs →
    ∀ (i k v : Nat) (o : List (List PL)) (G : List Blk), all.drop i = rest → i + rest.length = all.length → o.length = i → rest.length < k →
    ∃ T' G' v', loopK E K 0 [2, 3, 4, 8, 9] x48_1 k ⟨[(2, .one (.p l)), (3, .one (.ptr 0 0 0 0)), (4, .one (.ptr 1 0 0 0)), (8, .one (.own 2 v 0 o.length)), (9, .one (.p (.int .i64 (.ofNat i))))], ⟨false, 0, 4, [[.p c1, .p c2, .p c3, .p c4]], false, 48⟩ :: ⟨false, 0, 8, [moD m], false, 73⟩ :: ⟨false, v, 12, pc o, false, 75⟩ :: G⟩ =
        some (.exit 0, ⟨T', ⟨false, 0, 4, [[.p c1, .p c2, .p c3, .p c4]], false, 48⟩ :: ⟨false, 0, 8, [moD m], false, 73⟩ :: ⟨false, v', 12, pc (o ++ outs), false, 75⟩ :: G'⟩) ∧ getT T' 8 = some (.one (.own 2 v' 0 (o ++ outs).length)) := by
  intro rest outs h
  induction h with
  | nil =>
    intro i k v o G hd hi ho hk
    obtain ⟨k, rfl⟩ : ∃ k', k = k' + 1 := ⟨k - 1, by omega⟩
    have : ∃ T', loopK E K 0 [2, 3, 4, 8, 9] x48_1 (k + 1) ⟨[(2, .one (.p l)), (3, .one (.ptr 0 0 0 0)), (4, .one (.ptr 1 0 0 0)), (8, .one (.own 2 v 0 o.length)), (9, .one (.p (.int .i64 (.ofNat i))))], ⟨false, 0, 4, [[.p c1, .p c2, .p c3, .p c4]], false, 48⟩ :: ⟨false, 0, 8, [moD m], false, 73⟩ :: ⟨false, v, 12, pc o, false, 75⟩ :: G⟩ =
        some (.exit 0, ⟨T', ⟨false, 0, 4, [[.p c1, .p c2, .p c3, .p c4]], false, 48⟩ :: ⟨false, 0, 8, [moD m], false, 73⟩ :: ⟨false, v, 12, pc o, false, 75⟩ :: G⟩) ∧ getT T' 8 = some (.one (.own 2 v 0 o.length)) := by
      have hlt : ¬ i < all.length := by simp at hi; omega
      apply ex1
      · rw [loopK]
        simp only [EVS, EVN, reduceIte, Nat.reduceEqDiff, x48_1, sl.len, hlt]
        rfl
      · simp only [EVS, reduceIte, Nat.reduceEqDiff]
    obtain ⟨T', g1, g2⟩ := this
    exact ⟨T', G, v, by simpa using g1, by simpa using g2⟩
  | @cons x y z u kk r1 r2 r3 r4 es outs hk hs h1 h2 h ih =>
    intro i k v o G hd hi ho hkk
    obtain ⟨k, rfl⟩ : ∃ k', k = k' + 1 := ⟨k - 1, by omega⟩
    simp only [List.length_cons] at hi hkk
    have hlt : i < all.length := by omega
    have hget : all[i]? = some (x :: y :: z :: u :: mo kk) := by
      have := congrArg (·[0]?) hd
      simpa using this
    have hidx := fun (hh : HF) (kd : IntKind) => sl.idx (h := hh) (k := kd) (sz := 12) hget (by simp [mo_len, hk.1])
    have hd2 : all.drop (i + 1) = es := by
      have := congrArg (List.drop 1) hd
      simpa [List.drop_drop] using this
    have f1 : wrapF .i64 (.ofNat (i + 1)) = .ofNat (i + 1) := wrap_i64 (by omega)
    have f2 : (o.length + 1) * 128 ≤ lim := by unfold lim; omega
    have f3 : o.length + 1 ≤ 9223372036854775807 := by omega
    have hk8 := hk.1
    have hs8 := hs.1
    have t1 : (moD m).take 8 = moD m := List.take_of_length_le (by rw [moD_len]; omega)
    have t2 : (moD kk).take 8 = moD kk := List.take_of_length_le (by rw [moD_len]; omega)
    have t3 : (moD (addM m kk)).take 8 = moD (addM m kk) := List.take_of_length_le (by rw [moD_len]; omega)
    have t4 : (moD (addM m kk)).drop 8 = [] := List.drop_eq_nil_of_le (by rw [moD_len]; omega)
    obtain ⟨T', G', v', g1, g2⟩ := ih (i + 1) k (v + 1) (o ++ [r1 :: r2 :: r3 :: r4 :: mo (addM m kk)]) (G ++ [⟨false, 0, 8, [moD (addM m kk)], false, 73⟩, ⟨false, 0, 12, [.p r1 :: .p r2 :: .p r3 :: .p r4 :: moD (addM m kk)], false, 75⟩]) hd2 (by omega) (by simp; omega) (by omega)
    refine ⟨T', G', v', ?_, by simpa using g2⟩
    rw [loopK]
    rw [List.append_assoc, List.singleton_append, List.length_append, List.length_singleton] at g1
    simp only [EVS, EVN, EVF, reduceIte, Nat.reduceEqDiff, Nat.reduceLeDiff, Nat.reduceLT, Nat.reduceAdd, x48_1, sl.len, hlt, hidx, mo_D, moD_len, mo_len, hk8, hs8, hm8, t1, t2, t3, frz_moD, ids_moD, hmd, MDS, h1, h2, f1, f2, f3, pc_len, pc_snoc, scal_mo]
    exact g1

end Go.Proofs.YtidginchkjhobaaGreat

namespace Go.Proofs.YtidginchkjhobaaGreat
open Go.Ev Go.Num

theorem timesR_evt {B : Base} (hB : Std B) {c : List PL} {z : Int} (hc : IsZ c z) (hz : S31 z) {m : List Nat} (hm : MoOk m) : ∀ {es : List (List PL)} {ts : List (Int × List Nat)}, PolyR es ts → (∀ t ∈ ts, S31 t.1 ∧ MoOk (addM m t.2)) →
    ∃ outs, PolyR outs (timesT z m ts) ∧ Evt B fun E _ => TimesR E c m es outs
  | _, _, .nil, _ => ⟨[], .nil, Evt.of fun _ _ => .nil⟩
  | _, _, .cons (y := t) ht h, hs => by
    obtain ⟨outs, h1, h2⟩ := timesR_evt hB hc hz hm h fun t ht => hs t (List.mem_cons_of_mem _ ht)
    obtain ⟨n, a, d, b, rfl, q1, q2, q3⟩ := ht
    obtain ⟨hs1, hs2⟩ := hs t (List.mem_cons_self ..)
    have g1 := rmonoMul_ret hB hm q3 hs2
    obtain ⟨r, g2, hr⟩ := rMul_z hB hc ⟨n, a, d, b, rfl, q1, q2⟩ hz hs1
    obtain ⟨n', a', d', b', rfl, w1, w2⟩ := hr
    exact ⟨_, .cons ⟨n', a', d', b', rfl, w1, w2, hs2⟩ h1, (h2.and (g1.evt.and g2.evt)).mono fun E K ⟨e1, e2, e3⟩ => .cons q3 hs2 e2 e3 e1⟩

theorem frzL_pc (n : Nat) (h : HF) : ∀ (cs : List PL), mapO (freezeL n h) (cs.map DL.p) = some cs
  | [] => rfl
  | c :: cs => by simp only [List.map_cons, mapO, frzL0, frzL_pc n h cs]
theorem frz_pc (n : Nat) (h : HF) : ∀ (es : List (List PL)), mapO (mapO (freezeL n h)) (pc es) = some es
  | [] => rfl
  | c :: es => by
    have := frz_pc n h es
    simp only [pc] at this
    simp only [pc, List.map_cons, mapO, frzL_pc, this]
theorem idsL_pc (n : Nat) (h : HF) : ∀ (cs : List PL), (cs.map DL.p).flatMap (idsL n h) = []
  | [] => rfl
  | c :: cs => by simp only [List.map_cons, List.flatMap_cons, idsL0, idsL_pc n h cs, List.append_nil]
theorem ids_pc (n : Nat) (h : HF) : ∀ (es : List (List PL)), (pc es).flatMap (fun c => c.flatMap (idsL n h)) = []
  | [] => rfl
  | c :: es => by
    have := ids_pc n h es
    simp only [pc] at this
    simp only [pc, List.map_cons, List.flatMap_cons, idsL_pc, this, List.append_nil]
theorem pc_take (es : List (List PL)) {n : Nat} (h : es.length ≤ n) : (pc es).take n = pc es := List.take_of_length_le (by rw [pc_len]; exact h)

set_option maxRecDepth 100000 in
set_option maxHeartbeats 4000000 in
theorem rtimes_ret {B : Base} (hB : Std B) {c : List PL} {z : Int} (hc : IsZ c z) (hz : S31 z) (h0 : z ≠ 0) {m : List Nat} (hm : MoOk m) {l : PL} {es : List (List PL)} {ts : List (Int × List Nat)} (sl : Sl l es) (hp : PolyR es ts) (hs : ∀ t ∈ ts, S31 t.1 ∧ MoOk (addM m t.2)) (hl : es.length < 1000000) :
    ∃ outs, Ret B 48 [.agg c, .agg (mo m), .one l] (.tup [.one (.lst outs), .one (.int .i64 (.ofNat 0))]) ∧ PolyR outs (timesT z m ts) := by
  obtain ⟨outs, h1, h2⟩ := timesR_evt hB hc hz hm hp hs
  have h3 := rSign_z hB hc
  obtain ⟨n, a, d, b, rfl, q1, q2⟩ := hc
  refine ⟨outs, Ret.of (hB.tab _ _ rfl) ((h2.and (h3.evt.and (hB.evt.and (Evt.ge (es.length + 1))))).mono fun E K ⟨e1, e2, hmd, hK⟩ => ?_), h1⟩
  obtain ⟨T', G', v', g1, g2⟩ := times_go (K := K) hm.1 hmd sl hl es outs e1 0 K 0 [] [] (by simp) (by simp) (by simp) (by omega)
  have hq : eqF (sgn z) (.ofNat 0) = false := by
    unfold sgn; rw [if_neg h0]; split <;> rfl
  simp only [List.nil_append, List.length_nil, pc, List.map_nil] at g1 g2
  have hm8 := hm.1
  have e2' := e2
  simp only [EVS, EVN, reduceIte, Nat.reduceEqDiff, Nat.reduceLeDiff, Nat.reduceAdd, x48, mo_D, moD_len, hm8, hmd, MDS, e2, hq, g1, g2]
  have ht := pc_take outs (Nat.le_refl _)
  have hf := fun h => frz_pc 5 h outs
  simp only [pc] at ht hf
  simp only [EVS, EVN, List.length_map, ht, hf, Nat.le_refl]

theorem rtimes_zero {B : Base} (hB : Std B) {c : List PL} (hc : IsZ c 0) {m : List Nat} (hm : MoOk m) (l : PL) :
    Ret B 48 [.agg c, .agg (mo m), .one l] (.tup [.one .nilS, .one (.int .i64 (.ofNat 0))]) := by
  have h3 := rSign_z hB hc
  obtain ⟨n, a, d, b, rfl, q1, q2⟩ := hc
  refine Ret.of (hB.tab _ _ rfl) ((h3.evt.and hB.evt).mono fun E K ⟨e2, hmd⟩ => ?_)
  have hq : eqF (sgn 0) (.ofNat 0) = true := rfl
  have hm8 := hm.1
  simp only [EVS, EVN, reduceIte, Nat.reduceEqDiff, Nat.reduceLeDiff, Nat.reduceAdd, x48, mo_D, moD_len, hm8, hmd, MDS, e2, hq]

def zM : List Nat := [0, 0, 0, 0, 0, 0, 0, 0]
theorem zM_ok : MoOk zM := ⟨rfl, by decide⟩
theorem addM_zero {m : List Nat} (h : m.length = 8) : addM zM m = m := by
  obtain ⟨a, b, c, d, e, f, g, i, rfl⟩ := list8 h
  simp [addM, zM]

/-- A slice with the terms of a polynomial. -/
def PolyS (l : PL) (ts : List (Int × List Nat)) : Prop := ∃ es, Sl l es ∧ PolyR es ts

theorem rscale_ret {B : Base} (hB : Std B) {c : List PL} {z : Int} (hc : IsZ c z) (hz : S31 z) {l : PL} {ts : List (Int × List Nat)} (hp : PolyS l ts) (hs : ∀ t ∈ ts, S31 t.1) (hl : ts.length < 1000000) :
    ∃ r, Ret B 17 [.agg c, .one l] (.one r) ∧ PolyS r (if z = 0 then [] else ts.map fun t => (z * t.1, t.2)) := by
  obtain ⟨es, sl, hp⟩ := hp
  have hmo : ∀ t ∈ ts, MoOk t.2 := by
    intro t ht
    obtain ⟨i, hi⟩ := List.mem_iff_getElem?.1 ht
    obtain ⟨c, -, hc⟩ := hp.get i t hi
    obtain ⟨n, a, d, b, -, -, -, h⟩ := hc
    exact h
  have hlen : es.length = ts.length := hp.length
  by_cases h0 : z = 0
  · subst h0
    have h1 := rtimes_zero hB hc zM_ok l
    obtain ⟨n, a, d, b, rfl, q1, q2⟩ := hc
    refine ⟨.nilS, Ret.of (hB.tab _ _ rfl) ((h1.evt.and hB.evt).mono fun E K ⟨e1, hmd⟩ => ?_), ⟨[], .nil, .nil⟩⟩
    simp only [zM, mo, List.map_cons, List.map_nil] at e1
    simp only [EVS, EVN, reduceIte, Nat.reduceEqDiff, Nat.reduceLeDiff, Nat.reduceAdd, x17, hmd, MDS, e1]
  · obtain ⟨outs, h1, h2⟩ := rtimes_ret hB hc hz h0 zM_ok sl hp (fun t ht => ⟨hs t ht, by rw [addM_zero (hmo t ht).1]; exact hmo t ht⟩) (by omega)
    have e : timesT z zM ts = ts.map fun t => (z * t.1, t.2) := by
      unfold timesT
      exact List.map_congr_left fun t ht => by rw [addM_zero (hmo t ht).1]
    rw [e] at h2
    obtain ⟨n, a, d, b, rfl, q1, q2⟩ := hc
    refine ⟨.lst outs, Ret.of (hB.tab _ _ rfl) ((h1.evt.and hB.evt).mono fun E K ⟨e1, hmd⟩ => ?_), ⟨outs, .lst, by rw [if_neg h0]; exact h2⟩⟩
    simp only [zM, mo, List.map_cons, List.map_nil] at e1
    simp only [EVS, EVN, reduceIte, Nat.reduceEqDiff, Nat.reduceLeDiff, Nat.reduceAdd, x17, hmd, MDS, e1]

end Go.Proofs.YtidginchkjhobaaGreat

namespace Go.Proofs.YtidginchkjhobaaGreat
open Go.Ev Go.Num

/-- What Add meets, term by term. -/
inductive RAddR (E : Oracle) : List (List PL) → List (List PL) → List (List PL) → Prop
  | nil : RAddR E [] [] []
  | leftE {x y z u : PL} {m : List Nat} {ps os : List (List PL)} (hm : MoOk m) (h : RAddR E ps [] os) : RAddR E ((x :: y :: z :: u :: mo m) :: ps) [] ((x :: y :: z :: u :: mo m) :: os)
  | rightE {x y z u : PL} {m : List Nat} {qs os : List (List PL)} (hm : MoOk m) (h : RAddR E [] qs os) : RAddR E [] ((x :: y :: z :: u :: mo m) :: qs) ((x :: y :: z :: u :: mo m) :: os)
  | leftC {x y z u x2 y2 z2 u2 : PL} {m n : List Nat} {ps qs os : List (List PL)} (hm : MoOk m) (hn : MoOk n) (hc : E.pure 35 [.agg (mo m), .agg (mo n)] = some (.one (.int .i64 (.ofNat 1)))) (h : RAddR E ps ((x2 :: y2 :: z2 :: u2 :: mo n) :: qs) os) :
      RAddR E ((x :: y :: z :: u :: mo m) :: ps) ((x2 :: y2 :: z2 :: u2 :: mo n) :: qs) ((x :: y :: z :: u :: mo m) :: os)
  | rightC {x y z u x2 y2 z2 u2 : PL} {m n : List Nat} {ps qs os : List (List PL)} (hm : MoOk m) (hn : MoOk n) (hc : E.pure 35 [.agg (mo m), .agg (mo n)] = some (.one (.int .i64 (.negSucc 0)))) (h : RAddR E ((x :: y :: z :: u :: mo m) :: ps) qs os) :
      RAddR E ((x :: y :: z :: u :: mo m) :: ps) ((x2 :: y2 :: z2 :: u2 :: mo n) :: qs) ((x2 :: y2 :: z2 :: u2 :: mo n) :: os)
  | zero {x y z u x2 y2 z2 u2 r1 r2 r3 r4 : PL} {m n : List Nat} {ps qs os : List (List PL)} (hm : MoOk m) (hn : MoOk n) (hc : E.pure 35 [.agg (mo m), .agg (mo n)] = some (.one (.int .i64 (.ofNat 0))))
      (ha : E.pure 36 [.agg [x, y, z, u], .agg [x2, y2, z2, u2]] = some (.agg [r1, r2, r3, r4])) (hs : E.pure 37 [.agg [r1, r2, r3, r4]] = some (.one (.int .i64 (.ofNat 0)))) (h : RAddR E ps qs os) :
      RAddR E ((x :: y :: z :: u :: mo m) :: ps) ((x2 :: y2 :: z2 :: u2 :: mo n) :: qs) os
  | both {x y z u x2 y2 z2 u2 r1 r2 r3 r4 : PL} {m n : List Nat} {s : Int} {ps qs os : List (List PL)} (hm : MoOk m) (hn : MoOk n) (hc : E.pure 35 [.agg (mo m), .agg (mo n)] = some (.one (.int .i64 (.ofNat 0))))
      (ha : E.pure 36 [.agg [x, y, z, u], .agg [x2, y2, z2, u2]] = some (.agg [r1, r2, r3, r4])) (hs : E.pure 37 [.agg [r1, r2, r3, r4]] = some (.one (.int .i64 s))) (h0 : eqF s (.ofNat 0) = false) (h : RAddR E ps qs os) :
      RAddR E ((x :: y :: z :: u :: mo m) :: ps) ((x2 :: y2 :: z2 :: u2 :: mo n) :: qs) ((r1 :: r2 :: r3 :: r4 :: mo m) :: os)

theorem drop_cons_get {α : Type} {l r : List α} {i : Nat} {c : α} (h : l.drop i = c :: r) : l[i]? = some c ∧ l.drop (i + 1) = r := by
  have h1 := congrArg (·[0]?) h
  have h2 := congrArg (List.drop 1) h
  exact ⟨by simpa using h1, by simpa [List.drop_drop] using h2⟩

set_option maxRecDepth 100000 in
set_option maxHeartbeats 16000000 in
theorem add_go {E : Oracle} {K : Nat} {lp lq : PL} (hmd : E.mode = md) {allp allq : List (List PL)} (sp : Sl lp allp) (sq : Sl lq allq) (hlp : allp.length < 1000000) (hlq : allq.length < 1000000) : ∀ (ps qs outs : List (List PL)), RAddR E ps qs outs →
    ∀ (i j k v : Nat) (o : List (List PL)) (G : List Blk), allp.drop i = ps → allq.drop j = qs → i + ps.length = allp.length → j + qs.length = allq.length → o.length ≤ i + j → ps.length + qs.length < k →
    ∃ T' G' v', loopK E K 0 [0, 1, 5, 6, 7] x10_1 k ⟨[(0, .one (.p lp)), (1, .one (.p lq)), (5, .one (.own 0 v 0 o.length)), (6, .one (.p (.int .i64 (.ofNat i)))), (7, .one (.p (.int .i64 (.ofNat j))))], ⟨false, v, 12, pc o, false, 75⟩ :: G⟩ = some (.exit 0, ⟨T', ⟨false, v', 12, pc (o ++ outs), false, 75⟩ :: G'⟩) ∧ getT T' 5 = some (.one (.own 0 v' 0 (o ++ outs).length)) := by
  intro ps qs outs h
  induction h with
  | nil =>
    intro i j k v o G hd he hi hj ho hk
    obtain ⟨k, rfl⟩ : ∃ k', k = k' + 1 := ⟨k - 1, by omega⟩
    have h1 : ¬ i < allp.length := by simp at hi; omega
    have h2 : ¬ j < allq.length := by simp at hj; omega
    have : ∃ T', loopK E K 0 [0, 1, 5, 6, 7] x10_1 (k + 1) ⟨[(0, .one (.p lp)), (1, .one (.p lq)), (5, .one (.own 0 v 0 o.length)), (6, .one (.p (.int .i64 (.ofNat i)))), (7, .one (.p (.int .i64 (.ofNat j))))], ⟨false, v, 12, pc o, false, 75⟩ :: G⟩ = some (.exit 0, ⟨T', ⟨false, v, 12, pc o, false, 75⟩ :: G⟩) ∧ getT T' 5 = some (.one (.own 0 v 0 o.length)) := by
      apply ex1
      · rw [loopK]
        simp only [EVS, EVN, EVF, reduceIte, Nat.reduceEqDiff, x10_1, sp.len, sq.len, h1, h2]
        rfl
      · simp only [EVS, reduceIte, Nat.reduceEqDiff]
    obtain ⟨T', g1, g2⟩ := this
    exact ⟨T', G, v, by simpa using g1, by simpa using g2⟩
  | @leftE x y z u m ps os hm h ih =>
    intro i j k v o G hd he hi hj ho hk
    obtain ⟨k, rfl⟩ : ∃ k', k = k' + 1 := ⟨k - 1, by omega⟩
    simp only [List.length_cons, List.length_nil, Nat.add_zero] at hi hj hk
    obtain ⟨gp, dp⟩ := drop_cons_get hd
    have ip := fun (hh : HF) (kd : IntKind) => sp.idx (h := hh) (k := kd) (sz := 12) gp (by simp [mo_len, hm.1])
    have lp1 : i < allp.length := by omega
    have lp2 : ¬ i = allp.length := by omega
    have m8 := hm.1
    have tm : (moD m).take 8 = moD m := List.take_of_length_le (by rw [moD_len]; omega)
    obtain rfl : j = allq.length := by omega
    have f1 : wrapF .i64 (.ofNat (i + 1)) = .ofNat (i + 1) := wrap_i64 (by omega)
    have f1b : wrapF .i64 (.ofNat (allq.length + 1)) = .ofNat (allq.length + 1) := wrap_i64 (by omega)
    have f2 : (o.length + 1) * 128 ≤ lim := by unfold lim; omega
    have f3 : o.length + 1 ≤ 9223372036854775807 := by omega
    obtain ⟨T', G', v', g1, g2⟩ := ih (i + 1) allq.length k (v + 1) (o ++ [(x :: y :: z :: u :: mo m)]) (G ++ [⟨false, 0, 12, [.p x :: .p y :: .p z :: .p u :: moD m], false, 75⟩]) dp he (by first | omega | (simp only [List.length_cons, List.length_nil]; omega)) (by first | omega | (simp only [List.length_cons, List.length_nil]; omega)) (by simp only [List.length_append, List.length_singleton]; omega) (by first | omega | (simp only [List.length_nil]; omega))
    refine ⟨T', G', v', ?_, by simpa using g2⟩
    rw [List.append_assoc, List.singleton_append, List.length_append, List.length_singleton] at g1
    rw [loopK]
    simp only [EVS, EVN, EVF, reduceIte, Nat.reduceEqDiff, Nat.reduceLT, Nat.reduceAdd, x10_1, sp.len, sq.len, ip, lp1, m8, tm, f1, f2, f3, mo_D, moD_len, hmd, MDS, pc_len, pc_snoc]
    exact g1
  | @rightE x y z u m qs os hm h ih =>
    intro i j k v o G hd he hi hj ho hk
    obtain ⟨k, rfl⟩ : ∃ k', k = k' + 1 := ⟨k - 1, by omega⟩
    simp only [List.length_cons, List.length_nil, Nat.add_zero] at hi hj hk
    obtain rfl : i = allp.length := by omega
    obtain ⟨gq, dq⟩ := drop_cons_get he
    have iq := fun (hh : HF) (kd : IntKind) => sq.idx (h := hh) (k := kd) (sz := 12) gq (by simp [mo_len, hm.1])
    have lq1 : j < allq.length := by omega
    have lq2 : ¬ j = allq.length := by omega
    have n8 := hm.1
    have tn : (moD m).take 8 = moD m := List.take_of_length_le (by rw [moD_len]; omega)
    have f1 : wrapF .i64 (.ofNat (allp.length + 1)) = .ofNat (allp.length + 1) := wrap_i64 (by omega)
    have f1b : wrapF .i64 (.ofNat (j + 1)) = .ofNat (j + 1) := wrap_i64 (by omega)
    have f2 : (o.length + 1) * 128 ≤ lim := by unfold lim; omega
    have f3 : o.length + 1 ≤ 9223372036854775807 := by omega
    obtain ⟨T', G', v', g1, g2⟩ := ih allp.length (j + 1) k (v + 1) (o ++ [(x :: y :: z :: u :: mo m)]) (G ++ [⟨false, 0, 12, [.p x :: .p y :: .p z :: .p u :: moD m], false, 75⟩]) hd dq (by first | omega | (simp only [List.length_cons, List.length_nil]; omega)) (by first | omega | (simp only [List.length_cons, List.length_nil]; omega)) (by simp only [List.length_append, List.length_singleton]; omega) (by first | omega | (simp only [List.length_nil]; omega))
    refine ⟨T', G', v', ?_, by simpa using g2⟩
    rw [List.append_assoc, List.singleton_append, List.length_append, List.length_singleton] at g1
    rw [loopK]
    simp only [EVS, EVN, EVF, reduceIte, Nat.reduceEqDiff, Nat.reduceLT, Nat.reduceAdd, x10_1, sp.len, sq.len, Nat.lt_irrefl, iq, lq1, lq2, n8, tn, f1b, f2, f3, mo_D, moD_len, hmd, MDS, pc_len, pc_snoc]
    exact g1
  | @leftC x y z u x2 y2 z2 u2 m n ps qs os hm hn hc h ih =>
    intro i j k v o G hd he hi hj ho hk
    obtain ⟨k, rfl⟩ : ∃ k', k = k' + 1 := ⟨k - 1, by omega⟩
    simp only [List.length_cons] at hi hj hk
    obtain ⟨gp, dp⟩ := drop_cons_get hd
    have ip := fun (hh : HF) (kd : IntKind) => sp.idx (h := hh) (k := kd) (sz := 12) gp (by simp [mo_len, hm.1])
    have lp1 : i < allp.length := by omega
    have lp2 : ¬ i = allp.length := by omega
    have m8 := hm.1
    have tm : (moD m).take 8 = moD m := List.take_of_length_le (by rw [moD_len]; omega)
    obtain ⟨gq, dq⟩ := drop_cons_get he
    have iq := fun (hh : HF) (kd : IntKind) => sq.idx (h := hh) (k := kd) (sz := 12) gq (by simp [mo_len, hn.1])
    have lq1 : j < allq.length := by omega
    have lq2 : ¬ j = allq.length := by omega
    have n8 := hn.1
    have tn : (moD n).take 8 = moD n := List.take_of_length_le (by rw [moD_len]; omega)
    have f1 : wrapF .i64 (.ofNat (i + 1)) = .ofNat (i + 1) := wrap_i64 (by omega)
    have f1b : wrapF .i64 (.ofNat (j + 1)) = .ofNat (j + 1) := wrap_i64 (by omega)
    have f2 : (o.length + 1) * 128 ≤ lim := by unfold lim; omega
    have f3 : o.length + 1 ≤ 9223372036854775807 := by omega
    obtain ⟨T', G', v', g1, g2⟩ := ih (i + 1) j k (v + 1) (o ++ [(x :: y :: z :: u :: mo m)]) (G ++ [⟨false, 0, 12, [.p x :: .p y :: .p z :: .p u :: moD m], false, 75⟩]) dp he (by first | omega | (simp only [List.length_cons, List.length_nil]; omega)) (by first | omega | (simp only [List.length_cons, List.length_nil]; omega)) (by simp only [List.length_append, List.length_singleton]; omega) (by first | omega | (simp only [List.length_cons]; omega))
    refine ⟨T', G', v', ?_, by simpa using g2⟩
    rw [List.append_assoc, List.singleton_append, List.length_append, List.length_singleton] at g1
    rw [loopK]
    simp only [EVS, EVN, EVF, reduceIte, Nat.reduceEqDiff, Nat.reduceLeDiff, Nat.reduceLT, Nat.reduceAdd, x10_1, sp.len, sq.len, ip, lp1, m8, tm, iq, lq2, n8, tn, f1, f2, f3, mo_D, moD_len, mo_len, frz_moD, ids_moD, hmd, MDS, hc, pc_len, pc_snoc]
    exact g1
  | @rightC x y z u x2 y2 z2 u2 m n ps qs os hm hn hc h ih =>
    intro i j k v o G hd he hi hj ho hk
    obtain ⟨k, rfl⟩ : ∃ k', k = k' + 1 := ⟨k - 1, by omega⟩
    simp only [List.length_cons] at hi hj hk
    obtain ⟨gp, dp⟩ := drop_cons_get hd
    have ip := fun (hh : HF) (kd : IntKind) => sp.idx (h := hh) (k := kd) (sz := 12) gp (by simp [mo_len, hm.1])
    have lp1 : i < allp.length := by omega
    have lp2 : ¬ i = allp.length := by omega
    have m8 := hm.1
    have tm : (moD m).take 8 = moD m := List.take_of_length_le (by rw [moD_len]; omega)
    obtain ⟨gq, dq⟩ := drop_cons_get he
    have iq := fun (hh : HF) (kd : IntKind) => sq.idx (h := hh) (k := kd) (sz := 12) gq (by simp [mo_len, hn.1])
    have lq1 : j < allq.length := by omega
    have lq2 : ¬ j = allq.length := by omega
    have n8 := hn.1
    have tn : (moD n).take 8 = moD n := List.take_of_length_le (by rw [moD_len]; omega)
    have f1 : wrapF .i64 (.ofNat (i + 1)) = .ofNat (i + 1) := wrap_i64 (by omega)
    have f1b : wrapF .i64 (.ofNat (j + 1)) = .ofNat (j + 1) := wrap_i64 (by omega)
    have f2 : (o.length + 1) * 128 ≤ lim := by unfold lim; omega
    have f3 : o.length + 1 ≤ 9223372036854775807 := by omega
    obtain ⟨T', G', v', g1, g2⟩ := ih i (j + 1) k (v + 1) (o ++ [(x2 :: y2 :: z2 :: u2 :: mo n)]) (G ++ [⟨false, 0, 12, [.p x2 :: .p y2 :: .p z2 :: .p u2 :: moD n], false, 75⟩]) hd dq (by first | omega | (simp only [List.length_cons, List.length_nil]; omega)) (by first | omega | (simp only [List.length_cons, List.length_nil]; omega)) (by simp only [List.length_append, List.length_singleton]; omega) (by first | omega | (simp only [List.length_cons]; omega))
    refine ⟨T', G', v', ?_, by simpa using g2⟩
    rw [List.append_assoc, List.singleton_append, List.length_append, List.length_singleton] at g1
    rw [loopK]
    simp only [EVS, EVN, EVF, reduceIte, Nat.reduceEqDiff, Nat.reduceLeDiff, Nat.reduceLT, Nat.reduceAdd, x10_1, sp.len, sq.len, ip, lp1, lp2, m8, tm, iq, lq2, n8, tn, f1b, f2, f3, mo_D, moD_len, mo_len, frz_moD, ids_moD, hmd, MDS, hc, pc_len, pc_snoc]
    exact g1
  | @zero x y z u x2 y2 z2 u2 r1 r2 r3 r4 m n ps qs os hm hn hc ha hs h ih =>
    intro i j k v o G hd he hi hj ho hk
    obtain ⟨k, rfl⟩ : ∃ k', k = k' + 1 := ⟨k - 1, by omega⟩
    simp only [List.length_cons] at hi hj hk
    obtain ⟨gp, dp⟩ := drop_cons_get hd
    have ip := fun (hh : HF) (kd : IntKind) => sp.idx (h := hh) (k := kd) (sz := 12) gp (by simp [mo_len, hm.1])
    have lp1 : i < allp.length := by omega
    have lp2 : ¬ i = allp.length := by omega
    have m8 := hm.1
    have tm : (moD m).take 8 = moD m := List.take_of_length_le (by rw [moD_len]; omega)
    obtain ⟨gq, dq⟩ := drop_cons_get he
    have iq := fun (hh : HF) (kd : IntKind) => sq.idx (h := hh) (k := kd) (sz := 12) gq (by simp [mo_len, hn.1])
    have lq1 : j < allq.length := by omega
    have lq2 : ¬ j = allq.length := by omega
    have n8 := hn.1
    have tn : (moD n).take 8 = moD n := List.take_of_length_le (by rw [moD_len]; omega)
    have f1 : wrapF .i64 (.ofNat (i + 1)) = .ofNat (i + 1) := wrap_i64 (by omega)
    have f1b : wrapF .i64 (.ofNat (j + 1)) = .ofNat (j + 1) := wrap_i64 (by omega)
    have f2 : (o.length + 1) * 128 ≤ lim := by unfold lim; omega
    have f3 : o.length + 1 ≤ 9223372036854775807 := by omega
    obtain ⟨T', G', v', g1, g2⟩ := ih (i + 1) (j + 1) k v o (G ++ [⟨false, 0, 4, [[.p r1, .p r2, .p r3, .p r4]], false, 48⟩]) dp dq (by first | omega | (simp only [List.length_cons, List.length_nil]; omega)) (by first | omega | (simp only [List.length_cons, List.length_nil]; omega)) (by omega) (by first | omega | (simp only [List.length_cons, List.length_nil]; omega))
    refine ⟨T', G', v', ?_, g2⟩
    rw [loopK]
    simp only [EVS, EVN, EVF, reduceIte, Nat.reduceEqDiff, Nat.reduceLeDiff, Nat.reduceLT, Nat.reduceAdd, x10_1, sp.len, sq.len, ip, lp1, lp2, m8, tm, iq, lq2, n8, tn, f1, f1b, mo_D, moD_len, mo_len, frz_moD, ids_moD, hmd, MDS, hc, ha, hs]
    exact g1
  | @both x y z u x2 y2 z2 u2 r1 r2 r3 r4 m n s ps qs os hm hn hc ha hs h0 h ih =>
    intro i j k v o G hd he hi hj ho hk
    obtain ⟨k, rfl⟩ : ∃ k', k = k' + 1 := ⟨k - 1, by omega⟩
    simp only [List.length_cons] at hi hj hk
    obtain ⟨gp, dp⟩ := drop_cons_get hd
    have ip := fun (hh : HF) (kd : IntKind) => sp.idx (h := hh) (k := kd) (sz := 12) gp (by simp [mo_len, hm.1])
    have lp1 : i < allp.length := by omega
    have lp2 : ¬ i = allp.length := by omega
    have m8 := hm.1
    have tm : (moD m).take 8 = moD m := List.take_of_length_le (by rw [moD_len]; omega)
    obtain ⟨gq, dq⟩ := drop_cons_get he
    have iq := fun (hh : HF) (kd : IntKind) => sq.idx (h := hh) (k := kd) (sz := 12) gq (by simp [mo_len, hn.1])
    have lq1 : j < allq.length := by omega
    have lq2 : ¬ j = allq.length := by omega
    have n8 := hn.1
    have tn : (moD n).take 8 = moD n := List.take_of_length_le (by rw [moD_len]; omega)
    have f1 : wrapF .i64 (.ofNat (i + 1)) = .ofNat (i + 1) := wrap_i64 (by omega)
    have f1b : wrapF .i64 (.ofNat (j + 1)) = .ofNat (j + 1) := wrap_i64 (by omega)
    have f2 : (o.length + 1) * 128 ≤ lim := by unfold lim; omega
    have f3 : o.length + 1 ≤ 9223372036854775807 := by omega
    obtain ⟨T', G', v', g1, g2⟩ := ih (i + 1) (j + 1) k (v + 1) (o ++ [(r1 :: r2 :: r3 :: r4 :: mo m)]) (G ++ [⟨false, 0, 4, [[.p r1, .p r2, .p r3, .p r4]], false, 48⟩, ⟨false, 0, 12, [.p r1 :: .p r2 :: .p r3 :: .p r4 :: moD m], false, 75⟩]) dp dq (by first | omega | (simp only [List.length_cons, List.length_nil]; omega)) (by first | omega | (simp only [List.length_cons, List.length_nil]; omega)) (by simp only [List.length_append, List.length_singleton]; omega) (by first | omega | (simp only [List.length_cons, List.length_nil]; omega))
    refine ⟨T', G', v', ?_, by simpa using g2⟩
    rw [List.append_assoc, List.singleton_append, List.length_append, List.length_singleton] at g1
    rw [loopK]
    simp only [EVS, EVN, EVF, reduceIte, Nat.reduceEqDiff, Nat.reduceLeDiff, Nat.reduceLT, Nat.reduceAdd, x10_1, sp.len, sq.len, ip, lp1, lp2, m8, tm, iq, lq2, n8, tn, f1, f1b, f2, f3, mo_D, moD_len, mo_len, frz_moD, ids_moD, hmd, MDS, hc, ha, hs, h0, pc_len, pc_snoc]
    exact g1

end Go.Proofs.YtidginchkjhobaaGreat

namespace Go.Proofs.YtidginchkjhobaaGreat
open Go.Ev Go.Num

/-- The coefficients are small. -/
def Bd (b : Nat) (ts : List Tm) : Prop := ∀ t ∈ ts, t.1.natAbs ≤ b

theorem PolyR.w8 {es : List (List PL)} {ts : List Tm} (h : PolyR es ts) : ∀ t ∈ ts, MoOk t.2 := by
  intro t ht
  obtain ⟨i, hi⟩ := List.mem_iff_getElem?.1 ht
  obtain ⟨c, -, hc⟩ := h.get i t hi
  obtain ⟨n, a, d, b, -, -, -, h⟩ := hc
  exact h

theorem raddR_evt {B : Base} (hB : Std B) {a b : Nat} (hab : a + b < 4294967296) : ∀ (n : Nat) {ps qs : List (List PL)} {ts us : List Tm}, ts.length + us.length ≤ n → PolyR ps ts → PolyR qs us → Bd a ts → Bd b us →
    ∃ outs, PolyR outs (addT ts us) ∧ Evt B fun E _ => RAddR E ps qs outs := by
  intro n
  induction n with
  | zero =>
    intro ps qs ts us hn hp hq h1 h2
    cases hp with
    | cons _ _ => simp at hn
    | nil => cases hq with
      | cons _ _ => simp at hn
      | nil => exact ⟨[], by rw [addT_nil_left]; exact .nil, Evt.of fun _ _ => .nil⟩
  | succ n ih =>
    intro ps qs ts us hn hp hq h1 h2
    cases hp with
    | nil => cases hq with
      | nil => exact ⟨[], by rw [addT_nil_left]; exact .nil, Evt.of fun _ _ => .nil⟩
      | @cons c u qs us hu h =>
        obtain ⟨outs, g1, g2⟩ := ih (by simp at hn ⊢; omega) (ps := []) (ts := []) .nil h h1 fun t ht => h2 t (List.mem_cons_of_mem _ ht)
        rw [addT_nil_left] at g1 ⊢
        have hu' := hu
        obtain ⟨x, y, z, w, rfl, -, -, q⟩ := hu'
        exact ⟨_, .cons hu g1, g2.mono fun E K e => .rightE q e⟩
    | @cons c t ps ts ht h => cases hq with
      | nil =>
        obtain ⟨outs, g1, g2⟩ := ih (by simp at hn ⊢; omega) (qs := []) (us := []) h .nil (fun t ht => h1 t (List.mem_cons_of_mem _ ht)) h2
        rw [addT_nil_right] at g1 ⊢
        have ht' := ht
        obtain ⟨x, y, z, w, rfl, -, -, q⟩ := ht'
        exact ⟨_, .cons ht g1, g2.mono fun E K e => .leftE q e⟩
      | @cons c2 u qs us hu k =>
        simp only [List.length_cons] at hn
        have b1 : Bd a ts := fun t ht => h1 t (List.mem_cons_of_mem _ ht)
        have b2 : Bd b us := fun t ht => h2 t (List.mem_cons_of_mem _ ht)
        have c1 := h1 t (List.mem_cons_self ..)
        have c2 := h2 u (List.mem_cons_self ..)
        have ht' := ht
        have hu' := hu
        obtain ⟨x, y, z, w, rfl, p1, p2, p3⟩ := ht'
        obtain ⟨x2, y2, z2, w2, rfl, q1, q2, q3⟩ := hu'
        have hc := rmonoCmp_ret hB p3.1 q3.1
        rw [addT_cons]
        rcases cmpL_cases t.2 u.2 with e | e | e
        · rw [if_pos e]
          rw [e] at hc
          obtain ⟨outs, g1, g2⟩ := ih (by simp; omega) h (.cons hu k) b1 h2
          exact ⟨_, .cons ht g1, (g2.and hc.evt).mono fun E K ⟨e1, e2⟩ => .leftC p3 q3 e2 e1⟩
        · rw [if_neg (by rw [e]; simp), if_pos e]
          rw [e] at hc
          obtain ⟨outs, g1, g2⟩ := ih (by simp; omega) (.cons ht h) k h1 b2
          exact ⟨_, .cons hu g1, (g2.and hc.evt).mono fun E K ⟨e1, e2⟩ => .rightC p3 q3 e2 e1⟩
        · rw [if_neg (by rw [e]; simp), if_neg (by rw [e]; simp)]
          rw [e] at hc
          obtain ⟨outs, g1, g2⟩ := ih (by omega) h k b1 b2
          obtain ⟨r, g3, g4⟩ := rAdd_z hB (x := t.1) (y := u.1) ⟨x, y, z, w, rfl, p1, p2⟩ ⟨x2, y2, z2, w2, rfl, q1, q2⟩ (by unfold S31; omega) (by unfold S31; omega)
          have g5 := rSign_z hB g4
          obtain ⟨n', a', d', b', rfl, w1, w2⟩ := g4
          by_cases h0 : t.1 + u.1 = 0
          · rw [if_pos h0]
            rw [h0] at g5
            exact ⟨_, g1, (g2.and (hc.evt.and (g3.evt.and g5.evt))).mono fun E K ⟨e1, e2, e3, e4⟩ => .zero p3 q3 e2 e3 e4 e1⟩
          · rw [if_neg h0]
            refine ⟨_, .cons ⟨n', a', d', b', rfl, w1, w2, p3⟩ g1, (g2.and (hc.evt.and (g3.evt.and g5.evt))).mono fun E K ⟨e1, e2, e3, e4⟩ => .both p3 q3 e2 e3 e4 ?_ e1⟩
            unfold sgn; rw [if_neg h0]; split <;> rfl

theorem addT_len : ∀ (n : Nat) (ts us : List Tm), ts.length + us.length ≤ n → (addT ts us).length ≤ ts.length + us.length
  | _, [], us, _ => by rw [addT_nil_left]; simp
  | _, t :: ts, [], _ => by rw [addT_nil_right]; simp
  | 0, t :: ts, u :: us, h => by simp at h
  | n + 1, t :: ts, u :: us, h => by
    simp only [List.length_cons] at h
    have h1 := addT_len n ts (u :: us) (by simp; omega)
    have h2 := addT_len n (t :: ts) us (by simp; omega)
    have h3 := addT_len n ts us (by omega)
    simp only [List.length_cons] at h1 h2
    rw [addT_cons]
    split
    · simp only [List.length_cons]; omega
    · split
      · simp only [List.length_cons]; omega
      · split
        · simp only [List.length_cons]; omega
        · simp only [List.length_cons]; omega

theorem addT_bd {a b : Nat} : ∀ (n : Nat) (ts us : List Tm), ts.length + us.length ≤ n → Bd a ts → Bd b us → Bd (a + b) (addT ts us)
  | _, [], us, _, _, h2 => by rw [addT_nil_left]; exact fun t ht => Nat.le_trans (h2 t ht) (by omega)
  | _, t :: ts, [], _, h1, _ => by rw [addT_nil_right]; exact fun t ht => Nat.le_trans (h1 t ht) (by omega)
  | 0, t :: ts, u :: us, h, _, _ => by simp at h
  | n + 1, t :: ts, u :: us, h, h1, h2 => by
    simp only [List.length_cons] at h
    have b1 : Bd a ts := fun t ht => h1 t (List.mem_cons_of_mem _ ht)
    have b2 : Bd b us := fun t ht => h2 t (List.mem_cons_of_mem _ ht)
    have c1 := h1 t (List.mem_cons_self ..)
    have c2 := h2 u (List.mem_cons_self ..)
    have cons : ∀ {x : Tm} {l : List Tm}, x.1.natAbs ≤ a + b → Bd (a + b) l → Bd (a + b) (x :: l) := by
      intro x l hx hl y hy
      rcases List.mem_cons.1 hy with rfl | hy
      · exact hx
      · exact hl y hy
    rw [addT_cons]
    split
    · exact cons (by omega) (addT_bd n ts (u :: us) (by simp; omega) b1 h2)
    · split
      · exact cons (by omega) (addT_bd n (t :: ts) us (by simp; omega) h1 b2)
      · split
        · exact addT_bd n ts us (by omega) b1 b2
        · exact cons (by omega) (addT_bd n ts us (by omega) b1 b2)

theorem raddP_ret {B : Base} (hB : Std B) {lp lq : PL} {ts us : List Tm} (hp : PolyS lp ts) (hq : PolyS lq us) {a b : Nat} (hab : a + b < 4294967296) (h1 : Bd a ts) (h2 : Bd b us) (l1 : ts.length < 1000000) (l2 : us.length < 1000000) :
    ∃ outs, Ret B 10 [.one lp, .one lq] (.one (.lst outs)) ∧ PolyR outs (addT ts us) := by
  obtain ⟨ps, sp, hp⟩ := hp
  obtain ⟨qs, sq, hq⟩ := hq
  have lp := hp.length
  have lq := hq.length
  obtain ⟨outs, g1, g2⟩ := raddR_evt hB hab _ (Nat.le_refl _) hp hq h1 h2
  refine ⟨outs, Ret.of (hB.tab _ _ rfl) ((g2.and (hB.evt.and (Evt.ge (ps.length + qs.length + 1)))).mono fun E K ⟨e1, hmd, hK⟩ => ?_), g1⟩
  obtain ⟨T', G', v', k1, k2⟩ := add_go (K := K) hmd sp sq (by omega) (by omega) ps qs outs e1 0 0 K 0 [] [] (by simp) (by simp) (by simp) (by simp) (by simp) (by omega)
  simp only [List.nil_append, List.length_nil, pc, List.map_nil] at k1 k2
  simp only [EVS, EVN, reduceIte, Nat.reduceEqDiff, Nat.reduceLeDiff, Nat.reduceAdd, x10, k1, k2]
  have ht := pc_take outs (Nat.le_refl _)
  have hf := fun h => frz_pc 5 h outs
  simp only [pc] at ht hf
  simp only [EVS, EVN, List.length_map, ht, hf, Nat.le_refl]

def negT (ts : List Tm) : List Tm := ts.map fun t => (-1 * t.1, t.2)

theorem rsub_ret {B : Base} (hB : Std B) {lp lq : PL} {ts us : List Tm} (hp : PolyS lp ts) (hq : PolyS lq us) {a b : Nat} (hab : a + b < 4294967296) (h1 : Bd a ts) (h2 : Bd b us) (l1 : ts.length < 1000000) (l2 : us.length < 1000000) :
    ∃ outs, Ret B 12 [.one lp, .one lq] (.one (.lst outs)) ∧ PolyR outs (addT ts (negT us)) := by
  obtain ⟨c, g1, hc⟩ := rWhole_ret hB (x := .negSucc 0) (by unfold S31; decide)
  obtain ⟨r, g2, hr⟩ := rscale_ret hB hc (by unfold S31; decide) hq (fun t ht => by have := h2 t ht; unfold S31; omega) l2
  have hr' : PolyS r (negT us) := by rw [if_neg (by decide)] at hr; exact hr
  obtain ⟨outs, g3, g4⟩ := raddP_ret hB hp hr' hab h1 (fun t ht => by
    simp only [negT, List.mem_map] at ht
    obtain ⟨u, hu, rfl⟩ := ht
    have := h2 u hu
    simp only; omega) l1 (by simpa [negT] using l2)
  refine ⟨outs, Ret.of (hB.tab _ _ rfl) ((g1.evt.and (g2.evt.and (g3.evt.and hB.evt))).mono fun E K ⟨e1, e2, e3, hmd⟩ => ?_), g4⟩
  obtain ⟨n, m, d, e, rfl, -, -⟩ := hc
  simp only [EVS, EVN, reduceIte, Nat.reduceEqDiff, Nat.reduceLeDiff, Nat.reduceAdd, x12, hmd, MDS, e1, e2, e3]

end Go.Proofs.YtidginchkjhobaaGreat

namespace Go.Proofs.YtidginchkjhobaaGreat
open Go.Ev Go.Num

/-- What Mul meets, term by term. -/
inductive RMulR (E : Oracle) (lq : PL) : List (List PL) → PL → PL → Prop
  | nil {r : PL} : RMulR E lq [] r r
  | cons {x y z u : PL} {k : List Nat} {ps : List (List PL)} {r t r2 rf : PL} (hk : MoOk k) (h1 : E.pure 48 [.agg [x, y, z, u], .agg (mo k), .one lq] = some (.tup [.one t, .one (.int .i64 (.ofNat 0))]))
      (h2 : E.pure 10 [.one r, .one t] = some (.one r2)) (h : RMulR E lq ps r2 rf) : RMulR E lq ((x :: y :: z :: u :: mo k) :: ps) r rf

theorem mul_go {E : Oracle} {K : Nat} {lp lq : PL} (hmd : E.mode = md) {all : List (List PL)} (sl : Sl lp all) (hl : all.length < 1000000) : ∀ (rest : List (List PL)) (r rf : PL), RMulR E lq rest r rf →
    ∀ (i k : Nat) (H : List Blk), all.drop i = rest → i + rest.length = all.length → rest.length < k →
    ∃ T', loopK E K 0 [0, 1, 6, 7] x38_1 k ⟨[(0, .one (.p lp)), (1, .one (.p lq)), (6, .one (.p r)), (7, .one (.p (.int .i64 (.ofNat i))))], H⟩ = some (.exit 0, ⟨T', H⟩) ∧ getT T' 6 = some (.one (.p rf)) := by
  intro rest r rf h
  induction h with
  | nil =>
    intro i k H hd hi hk
    obtain ⟨k, rfl⟩ : ∃ k', k = k' + 1 := ⟨k - 1, by omega⟩
    have hlt : ¬ i < all.length := by simp at hi; omega
    apply ex1
    · rw [loopK]
      simp only [EVS, EVN, reduceIte, Nat.reduceEqDiff, x38_1, sl.len, hlt]
      rfl
    · simp only [EVS, reduceIte, Nat.reduceEqDiff]
  | @cons x y z u kk ps r t r2 rf hk h1 h2 h ih =>
    intro i k H hd hi hkk
    obtain ⟨k, rfl⟩ : ∃ k', k = k' + 1 := ⟨k - 1, by omega⟩
    simp only [List.length_cons] at hi hkk
    have hlt : i < all.length := by omega
    obtain ⟨gp, dp⟩ := drop_cons_get hd
    have ip := fun (hh : HF) (kd : IntKind) => sl.idx (h := hh) (k := kd) (sz := 12) gp (by simp [mo_len, hk.1])
    have f1 : wrapF .i64 (.ofNat (i + 1)) = .ofNat (i + 1) := wrap_i64 (by omega)
    have k8 := hk.1
    have tk : (moD kk).take 8 = moD kk := List.take_of_length_le (by rw [moD_len]; omega)
    obtain ⟨T', g1, g2⟩ := ih (i + 1) k H dp (by omega) (by omega)
    refine ⟨T', ?_, g2⟩
    rw [loopK]
    simp only [EVS, EVN, EVF, reduceIte, Nat.reduceEqDiff, Nat.reduceLeDiff, Nat.reduceAdd, x38_1, sl.len, hlt, ip, mo_D, moD_len, mo_len, k8, tk, frz_moD, ids_moD, hmd, MDS, h1, h2, f1]
    exact g1

theorem timesT_bd {z : Int} {m : List Nat} {ts : List Tm} {a b : Nat} (hz : z.natAbs ≤ a) (h : Bd b ts) : Bd (a * b) (timesT z m ts) := by
  intro t ht
  simp only [timesT, List.mem_map] at ht
  obtain ⟨u, hu, rfl⟩ := ht
  rw [Int.natAbs_mul]
  exact Nat.mul_le_mul hz (h u hu)

theorem rmulR_evt {B : Base} (hB : Std B) {lq : PL} {us : List Tm} (hq : PolyS lq us) {a b : Nat} (hb : Bd b us) (hlen : us.length < 1000) : ∀ {ps : List (List PL)} {ts : List Tm}, PolyR ps ts → Bd a ts → (∀ t ∈ ts, t.1 ≠ 0 ∧ ∀ u ∈ us, MoOk (addM t.2 u.2)) →
    ∀ (r : PL) (acc : List Tm) (c : Nat), PolyS r acc → Bd c acc → c + ts.length * (a * b) < 4294967296 → a < 65536 → b < 65536 → acc.length + ts.length * us.length < 1000000 →
    ∃ rf, PolyS rf (mulT acc ts us) ∧ Bd (c + ts.length * (a * b)) (mulT acc ts us) ∧ Evt B fun E _ => RMulR E lq ps r rf := by
  intro ps ts h
  induction h with
  | nil => intro _ _ r acc c hr hc _ _ _ _; exact ⟨r, hr, by simpa [mulT] using hc, Evt.of fun _ _ => .nil⟩
  | @cons ch t ps ts ht h ih =>
    intro ha hz r acc c hr hc hsum ha2 hb2 hl
    have ht' := ht
    obtain ⟨x, y, z, w, rfl, p1, p2, p3⟩ := ht'
    obtain ⟨hz1, hz2⟩ := hz t (List.mem_cons_self ..)
    have hta := ha t (List.mem_cons_self ..)
    simp only [List.length_cons] at hsum hl ⊢
    rw [Nat.add_mul, Nat.one_mul] at hsum hl ⊢
    have hq' := hq
    obtain ⟨qs, sq, hqs⟩ := hq'
    have hql : qs.length = us.length := hqs.length
    obtain ⟨o, g1, g2⟩ := rtimes_ret hB (z := t.1) ⟨x, y, z, w, rfl, p1, p2⟩ (by unfold S31; omega) hz1 p3 sq hqs (fun u hu => ⟨by have := hb u hu; unfold S31; omega, hz2 u hu⟩) (by omega)
    have bt := timesT_bd (m := t.2) hta hb
    obtain ⟨o2, g3, g4⟩ := raddP_ret hB hr ⟨o, .lst, g2⟩ (by omega) hc bt (by omega) (by simp [timesT]; omega)
    have bacc := addT_bd _ acc (timesT t.1 t.2 us) (Nat.le_refl _) hc bt
    have lacc := addT_len _ acc (timesT t.1 t.2 us) (Nat.le_refl _)
    have ltt : (timesT t.1 t.2 us).length = us.length := by simp [timesT]
    obtain ⟨rf, k1, k2, k3⟩ := ih (fun t ht => ha t (List.mem_cons_of_mem _ ht)) (fun t ht => hz t (List.mem_cons_of_mem _ ht)) (.lst o2) (addT acc (timesT t.1 t.2 us)) (c + a * b) ⟨o2, .lst, g4⟩ bacc (by omega) ha2 hb2 (by omega)
    refine ⟨rf, k1, ?_, (k3.and (g1.evt.and g3.evt)).mono fun E K ⟨e1, e2, e3⟩ => .cons p3 e2 e3 e1⟩
    rw [show c + (ts.length * (a * b) + a * b) = c + a * b + ts.length * (a * b) by omega]
    exact k2

theorem rmulP_ret {B : Base} (hB : Std B) {lp lq : PL} {ts us : List Tm} (hp : PolyS lp ts) (hq : PolyS lq us) {a b : Nat} (ha : Bd a ts) (hb : Bd b us) (ha2 : a < 65536) (hb2 : b < 65536) (hz : ∀ t ∈ ts, t.1 ≠ 0 ∧ ∀ u ∈ us, MoOk (addM t.2 u.2)) (hsum : ts.length * (a * b) < 4294967296) (l1 : ts.length < 500) (l2 : us.length < 1000) :
    ∃ rf, Ret B 38 [.one lp, .one lq] (.tup [.one rf, .one (.int .i64 (.ofNat 0))]) ∧ PolyS rf (mulT [] ts us) ∧ Bd (ts.length * (a * b)) (mulT [] ts us) := by
  obtain ⟨ps, sp, hps⟩ := hp
  have hpl : ps.length = ts.length := hps.length
  cases hps with
  | nil =>
    refine ⟨.lst [], Ret.of (hB.tab _ _ rfl) ((hB.evt.and (Evt.ge 1)).mono fun E K ⟨hmd, hK⟩ => ?_), ⟨[], .lst, .nil⟩, fun _ h => by cases h⟩
    obtain ⟨K', rfl⟩ : ∃ K', K = K' + 1 := ⟨K - 1, by omega⟩
    simp only [EVS, EVN, reduceIte, Nat.reduceEqDiff, Nat.reduceLeDiff, Nat.reduceAdd, x38, x38_1, loopK, sp.len, Nat.lt_irrefl]
  | @cons ch t ps ts ht h =>
    have ht' := ht
    obtain ⟨x, y, z, w, rfl, p1, p2, p3⟩ := ht'
    obtain ⟨hz1, hz2⟩ := hz t (List.mem_cons_self ..)
    have hta := ha t (List.mem_cons_self ..)
    simp only [List.length_cons] at hsum l1 hpl ⊢
    rw [Nat.add_mul, Nat.one_mul] at hsum ⊢
    have hq' := hq
    obtain ⟨qs, sq, hqs⟩ := hq'
    have hql : qs.length = us.length := hqs.length
    have hmul : ts.length * us.length ≤ 500 * 1000 := Nat.mul_le_mul (by omega) (by omega)
    obtain ⟨o, g1, g2⟩ := rtimes_ret hB (z := t.1) ⟨x, y, z, w, rfl, p1, p2⟩ (by unfold S31; omega) hz1 p3 sq hqs (fun u hu => ⟨by have := hb u hu; unfold S31; omega, hz2 u hu⟩) (by omega)
    have bt := timesT_bd (m := t.2) hta hb
    obtain ⟨o2, g3, g4⟩ := raddP_ret hB (lp := .lst []) (ts := []) ⟨[], .lst, .nil⟩ ⟨o, .lst, g2⟩ (a := 0) (by omega) (fun _ h => by cases h) bt (by simp) (by simp [timesT]; omega)
    rw [addT_nil_left] at g4
    obtain ⟨rf, k1, k2, k3⟩ := rmulR_evt hB hq hb l2 h (fun t ht => ha t (List.mem_cons_of_mem _ ht)) (fun t ht => hz t (List.mem_cons_of_mem _ ht)) (.lst o2) (timesT t.1 t.2 us) (a * b) ⟨o2, .lst, g4⟩ bt (by omega) ha2 hb2 (by simp [timesT]; omega)
    have hm : mulT [] (t :: ts) us = mulT (timesT t.1 t.2 us) ts us := by simp only [mulT, addT_nil_left]
    refine ⟨rf, Ret.of (hB.tab _ _ rfl) ((k3.and (g1.evt.and (g3.evt.and (hB.evt.and (Evt.ge (ps.length + 3)))))).mono fun E K ⟨e0, e1, e2, hmd, hK⟩ => ?_), by rw [hm]; exact k1, by rw [hm, Nat.add_comm]; exact k2⟩
    obtain ⟨K', rfl⟩ : ∃ K', K = K' + 1 := ⟨K - 1, by omega⟩
    obtain ⟨T', q1, q2⟩ := mul_go (K := K' + 1) hmd sp (by simp; omega) ps (.lst o2) rf e0 1 K' [⟨true, 0, 12, [], false, 75⟩] (by simp) (by simp; omega) (by omega)
    have ip := fun (hh : HF) (kd : IntKind) => sp.idx (h := hh) (k := kd) (i := 0) (sz := 12) rfl (by simp [mo_len, p3.1])
    have k8 := p3.1
    have tk : (moD t.2).take 8 = moD t.2 := List.take_of_length_le (by rw [moD_len]; omega)
    have l0 : 0 < ps.length + 1 := by omega
    have first : loopK E (K' + 1) 0 [0, 1, 6, 7] x38_1 (K' + 1) ⟨[(0, .one (.p lp)), (1, .one (.p lq)), (6, .one (.own 0 0 0 0)), (7, .one (.p (.int .i64 (.ofNat 0))))], [⟨false, 0, 12, [], false, 75⟩]⟩ = some (.exit 0, ⟨T', [⟨true, 0, 12, [], false, 75⟩]⟩) := by
      rw [loopK]
      simp only [EVS, EVN, EVF, reduceIte, Nat.reduceEqDiff, Nat.reduceLeDiff, Nat.reduceAdd, x38_1, sp.len, l0, ip, mo_D, moD_len, mo_len, k8, tk, frz_moD, ids_moD, hmd, MDS, e1, e2, w1]
      exact q1
    simp only [EVS, EVN, EVF, reduceIte, Nat.reduceEqDiff, Nat.reduceLeDiff, Nat.reduceAdd, x38, first, q2]

theorem rby_ret {B : Base} (hB : Std B) {lp lq : PL} {ts us : List Tm} (hp : PolyS lp ts) (hq : PolyS lq us) {a b : Nat} (ha : Bd a ts) (hb : Bd b us) (ha2 : a < 65536) (hb2 : b < 65536) (hz : ∀ t ∈ ts, t.1 ≠ 0 ∧ ∀ u ∈ us, MoOk (addM t.2 u.2)) (hsum : ts.length * (a * b) < 4294967296) (l1 : ts.length < 500) (l2 : us.length < 1000) :
    ∃ rf, Ret B 11 [.one lp, .one lq] (.one rf) ∧ PolyS rf (mulT [] ts us) ∧ Bd (ts.length * (a * b)) (mulT [] ts us) := by
  obtain ⟨rf, h1, h2, h3⟩ := rmulP_ret hB hp hq ha hb ha2 hb2 hz hsum l1 l2
  refine ⟨rf, Ret.of (hB.tab _ _ rfl) ((h1.evt.and hB.evt).mono fun E K ⟨e1, hmd⟩ => ?_), h2, h3⟩
  simp only [EVS, EVN, reduceIte, Nat.reduceEqDiff, Nat.reduceLeDiff, Nat.reduceAdd, x11, hmd, MDS, e1]

end Go.Proofs.YtidginchkjhobaaGreat

namespace Go.Proofs.YtidginchkjhobaaGreat
open Go.Ev Go.Num

/-- What merge meets, term by term, as long as both polynomials have terms. -/
inductive MergeR (E : Oracle) : List (List PL) → List (List PL) → List (List PL) → List (List PL) → List (List PL) → Prop
  | stopP {qs : List (List PL)} : MergeR E [] qs [] [] qs
  | stopQ {c : List PL} {ps : List (List PL)} : MergeR E (c :: ps) [] [] (c :: ps) []
  | left {x y z u x2 y2 z2 u2 : PL} {m n : List Nat} {ps qs os ps' qs' : List (List PL)} (hm : MoOk m) (hn : MoOk n) (hc : E.pure 151 [.agg (mo m), .agg (mo n)] = some (.one (.int .i64 (.ofNat 1)))) (h : MergeR E ps ((x2 :: y2 :: z2 :: u2 :: mo n) :: qs) os ps' qs') :
      MergeR E ((x :: y :: z :: u :: mo m) :: ps) ((x2 :: y2 :: z2 :: u2 :: mo n) :: qs) ((x :: y :: z :: u :: mo m) :: os) ps' qs'
  | right {x y z u x2 y2 z2 u2 : PL} {m n : List Nat} {ps qs os ps' qs' : List (List PL)} (hm : MoOk m) (hn : MoOk n) (hc : E.pure 151 [.agg (mo m), .agg (mo n)] = some (.one (.int .i64 (.negSucc 0)))) (hf : E.pure 119 [.agg [x2, y2, z2, u2]] = some (.agg [x2, y2, z2, u2])) (h : MergeR E ((x :: y :: z :: u :: mo m) :: ps) qs os ps' qs') :
      MergeR E ((x :: y :: z :: u :: mo m) :: ps) ((x2 :: y2 :: z2 :: u2 :: mo n) :: qs) ((x2 :: y2 :: z2 :: u2 :: mo n) :: os) ps' qs'
  | zero {x y z u x2 y2 z2 u2 r1 r2 r3 r4 : PL} {m n : List Nat} {ps qs os ps' qs' : List (List PL)} (hm : MoOk m) (hn : MoOk n) (hc : E.pure 151 [.agg (mo m), .agg (mo n)] = some (.one (.int .i64 (.ofNat 0)))) (hf : E.pure 119 [.agg [x2, y2, z2, u2]] = some (.agg [x2, y2, z2, u2]))
      (ha : E.pure 157 [.agg [x, y, z, u], .agg [x2, y2, z2, u2]] = some (.agg [r1, r2, r3, r4])) (hs : E.pure 158 [.agg [r1, r2, r3, r4]] = some (.one (.int .i64 (.ofNat 0)))) (h : MergeR E ps qs os ps' qs') :
      MergeR E ((x :: y :: z :: u :: mo m) :: ps) ((x2 :: y2 :: z2 :: u2 :: mo n) :: qs) os ps' qs'
  | both {x y z u x2 y2 z2 u2 r1 r2 r3 r4 : PL} {m n : List Nat} {s : Int} {ps qs os ps' qs' : List (List PL)} (hm : MoOk m) (hn : MoOk n) (hc : E.pure 151 [.agg (mo m), .agg (mo n)] = some (.one (.int .i64 (.ofNat 0)))) (hf : E.pure 119 [.agg [x2, y2, z2, u2]] = some (.agg [x2, y2, z2, u2]))
      (ha : E.pure 157 [.agg [x, y, z, u], .agg [x2, y2, z2, u2]] = some (.agg [r1, r2, r3, r4])) (hs : E.pure 158 [.agg [r1, r2, r3, r4]] = some (.one (.int .i64 s))) (h0 : eqF s (.ofNat 0) = false) (h : MergeR E ps qs os ps' qs') :
      MergeR E ((x :: y :: z :: u :: mo m) :: ps) ((x2 :: y2 :: z2 :: u2 :: mo n) :: qs) ((r1 :: r2 :: r3 :: r4 :: mo m) :: os) ps' qs'

theorem slice1 {c : List PL} {es : List (List PL)} (hes : ∀ d ∈ es, d.length = 12) (h : HF) : sliceIn 12 h (.p (.lst (c :: es))) 1 none = some (.p (.lst es), []) := by
  have hc : chunkLen 12 (c :: es)[1]? = true := by
    cases es with
    | nil => rfl
    | cons d es => exact beq_t (hes d (by simp))
  have h1 : Nat.ble 1 (es.length + 1) = true := ble_t (by omega)
  have h2 : Nat.ble (es.length + 1) (es.length + 1) = true := ble_t (Nat.le_refl _)
  simp only [sliceIn, Option.getD_none, List.length_cons, h1, h2, hc, Bool.and_self, cond_true, List.take_succ_cons, List.take_length, List.drop_succ_cons, List.drop_zero]

theorem Sl.cons_eq {l : PL} {c : List PL} {es : List (List PL)} (h : Sl l (c :: es)) : l = .lst (c :: es) := by
  rcases h with h | ⟨h, _⟩
  · exact h
  · cases h

set_option maxRecDepth 100000 in
set_option maxHeartbeats 16000000 in
theorem merge_go {E : Oracle} {K : Nat} (hmd : E.mode = md) : ∀ (ps qs outs ps' qs' : List (List PL)), MergeR E ps qs outs ps' qs' → (∀ d ∈ ps, d.length = 12) → (∀ d ∈ qs, d.length = 12) →
    ∀ (lp lq : PL) (k v : Nat) (o : List (List PL)) (G : List Blk), Sl lp ps → Sl lq qs → o.length + ps.length + qs.length < 2000000 → ps.length + qs.length < k →
    ∃ T' G' v' lp' lq', loopK E K 0 [0, 1, 2, 7] x118_1 k ⟨[(0, .one (.p lp)), (1, .one (.p lq)), (2, .one (.p (.fn 119 []))), (7, .one (.own 0 v 0 o.length))], ⟨false, v, 12, pc o, false, 75⟩ :: G⟩ = some (.exit 0, ⟨T', ⟨false, v', 12, pc (o ++ outs), false, 75⟩ :: G'⟩) ∧ (getT T' 0 = some (.one (.p lp')) ∧ getT T' 1 = some (.one (.p lq')) ∧ getT T' 2 = some (.one (.p (.fn 119 []))) ∧ getT T' 7 = some (.one (.own 0 v' 0 (o ++ outs).length))) ∧ Sl lp' ps' ∧ Sl lq' qs' := by
  have cv : ∀ (h : HF) (l : List DL), opCallV E h [.one (.p (.fn 119 [])), .agg l] = evPure E h 119 [.agg l] := fun _ _ => rfl
  have hv : ∀ (l : List DL), isHeapOp E .callV [.one (.p (.fn 119 [])), .agg l] = isHeapF E 119 := fun _ => rfl
  have hw : isHeapCall E .callV = false := rfl
  intro ps qs outs ps' qs' h
  induction h with
  | @stopP qs =>
    intro h12 k12 lp lq k v o G sp sq ho hk
    obtain ⟨k, rfl⟩ : ∃ k', k = k' + 1 := ⟨k - 1, by omega⟩
    have : ∃ T', loopK E K 0 [0, 1, 2, 7] x118_1 (k + 1) ⟨[(0, .one (.p lp)), (1, .one (.p lq)), (2, .one (.p (.fn 119 []))), (7, .one (.own 0 v 0 o.length))], ⟨false, v, 12, pc o, false, 75⟩ :: G⟩ = some (.exit 0, ⟨T', ⟨false, v, 12, pc o, false, 75⟩ :: G⟩) ∧ (getT T' 0 = some (.one (.p lp)) ∧ getT T' 1 = some (.one (.p lq)) ∧ getT T' 2 = some (.one (.p (.fn 119 []))) ∧ getT T' 7 = some (.one (.own 0 v 0 o.length))) := by
      apply ex1
      · rw [loopK]
        simp only [EVS, EVN, EVF, reduceIte, Nat.reduceEqDiff, x118_1, sp.len, Nat.lt_irrefl]
        rfl
      · simp only [EVS, reduceIte, Nat.reduceEqDiff, and_self]
    obtain ⟨T', g1, g2⟩ := this
    exact ⟨T', G, v, lp, lq, by simpa using g1, by simpa using g2, sp, sq⟩
  | @stopQ c ps =>
    intro h12 k12 lp lq k v o G sp sq ho hk
    obtain ⟨k, rfl⟩ : ∃ k', k = k' + 1 := ⟨k - 1, by omega⟩
    have : ∃ T', loopK E K 0 [0, 1, 2, 7] x118_1 (k + 1) ⟨[(0, .one (.p lp)), (1, .one (.p lq)), (2, .one (.p (.fn 119 []))), (7, .one (.own 0 v 0 o.length))], ⟨false, v, 12, pc o, false, 75⟩ :: G⟩ = some (.exit 0, ⟨T', ⟨false, v, 12, pc o, false, 75⟩ :: G⟩) ∧ (getT T' 0 = some (.one (.p lp)) ∧ getT T' 1 = some (.one (.p lq)) ∧ getT T' 2 = some (.one (.p (.fn 119 []))) ∧ getT T' 7 = some (.one (.own 0 v 0 o.length))) := by
      apply ex1
      · rw [loopK]
        simp only [EVS, EVN, EVF, reduceIte, Nat.reduceEqDiff, x118_1, sp.len, sq.len, Nat.zero_lt_succ, Nat.lt_irrefl]
        rfl
      · simp only [EVS, reduceIte, Nat.reduceEqDiff, and_self]
    obtain ⟨T', g1, g2⟩ := this
    exact ⟨T', G, v, lp, lq, by simpa using g1, by simpa using g2, sp, sq⟩
  | @left x y z u x2 y2 z2 u2 m n ps qs os ps' qs' hm hn hc h ih =>
    intro h12 k12 lp lq k v o G sp sq ho hk
    obtain ⟨k, rfl⟩ : ∃ k', k = k' + 1 := ⟨k - 1, by omega⟩
    simp only [List.length_cons] at ho hk
    obtain rfl := Sl.cons_eq sp
    obtain rfl := Sl.cons_eq sq
    have m8 := hm.1
    have n8 := hn.1
    have tm : (moD m).take 8 = moD m := List.take_of_length_le (by rw [moD_len]; omega)
    have tn : (moD n).take 8 = moD n := List.take_of_length_le (by rw [moD_len]; omega)
    have ip := fun (hh : HF) (kd : IntKind) => sp.idx (h := hh) (k := kd) (i := 0) (sz := 12) rfl (by simp [mo_len, m8])
    have iq := fun (hh : HF) (kd : IntKind) => sq.idx (h := hh) (k := kd) (i := 0) (sz := 12) rfl (by simp [mo_len, n8])
    have s1 := slice1 (c := x :: y :: z :: u :: mo m) (es := ps) fun d hd => h12 d (List.mem_cons_of_mem _ hd)
    have s2 := slice1 (c := x2 :: y2 :: z2 :: u2 :: mo n) (es := qs) fun d hd => k12 d (List.mem_cons_of_mem _ hd)
    have l1 : 0 < ps.length + 1 := by omega
    have l2 : 0 < qs.length + 1 := by omega
    have f2 : (o.length + 1) * 128 ≤ lim := by unfold lim; omega
    have f3 : o.length + 1 ≤ 9223372036854775807 := by omega
    obtain ⟨T', G', v', lp', lq', g1, g2, g3⟩ := ih (fun d hd => h12 d (List.mem_cons_of_mem _ hd)) k12 (.lst ps) (.lst ((x2 :: y2 :: z2 :: u2 :: mo n) :: qs)) k (v + 1) (o ++ [(x :: y :: z :: u :: mo m)]) (G ++ [⟨false, 0, 12, [.p x :: .p y :: .p z :: .p u :: moD m], false, 75⟩]) .lst .lst (by simp only [List.length_append, List.length_cons, List.length_nil]; omega) (by first | omega | (simp only [List.length_cons]; omega))
    refine ⟨T', G', v', lp', lq', ?_, by simpa using g2, g3⟩
    rw [List.append_assoc, List.singleton_append, List.length_append, List.length_singleton] at g1
    rw [loopK]
    simp only [EVS, EVN, EVF, reduceIte, Nat.reduceEqDiff, Nat.reduceLeDiff, Nat.reduceLT, Nat.reduceAdd, x118_1, l1, l2, ip, iq, m8, n8, tm, tn, f2, f3, s1, mo_D, moD_len, mo_len, frz_moD, ids_moD, hmd, MDS, hc, pc_len, pc_snoc]
    exact g1
  | @right x y z u x2 y2 z2 u2 m n ps qs os ps' qs' hm hn hc hf h ih =>
    intro h12 k12 lp lq k v o G sp sq ho hk
    obtain ⟨k, rfl⟩ : ∃ k', k = k' + 1 := ⟨k - 1, by omega⟩
    simp only [List.length_cons] at ho hk
    obtain rfl := Sl.cons_eq sp
    obtain rfl := Sl.cons_eq sq
    have m8 := hm.1
    have n8 := hn.1
    have tm : (moD m).take 8 = moD m := List.take_of_length_le (by rw [moD_len]; omega)
    have tn : (moD n).take 8 = moD n := List.take_of_length_le (by rw [moD_len]; omega)
    have ip := fun (hh : HF) (kd : IntKind) => sp.idx (h := hh) (k := kd) (i := 0) (sz := 12) rfl (by simp [mo_len, m8])
    have iq := fun (hh : HF) (kd : IntKind) => sq.idx (h := hh) (k := kd) (i := 0) (sz := 12) rfl (by simp [mo_len, n8])
    have s1 := slice1 (c := x :: y :: z :: u :: mo m) (es := ps) fun d hd => h12 d (List.mem_cons_of_mem _ hd)
    have s2 := slice1 (c := x2 :: y2 :: z2 :: u2 :: mo n) (es := qs) fun d hd => k12 d (List.mem_cons_of_mem _ hd)
    have l1 : 0 < ps.length + 1 := by omega
    have l2 : 0 < qs.length + 1 := by omega
    have f2 : (o.length + 1) * 128 ≤ lim := by unfold lim; omega
    have f3 : o.length + 1 ≤ 9223372036854775807 := by omega
    obtain ⟨T', G', v', lp', lq', g1, g2, g3⟩ := ih h12 (fun d hd => k12 d (List.mem_cons_of_mem _ hd)) (.lst ((x :: y :: z :: u :: mo m) :: ps)) (.lst qs) k (v + 1) (o ++ [(x2 :: y2 :: z2 :: u2 :: mo n)]) (G ++ [⟨false, 0, 12, [.p x2 :: .p y2 :: .p z2 :: .p u2 :: moD n], false, 75⟩]) .lst .lst (by simp only [List.length_append, List.length_cons, List.length_nil]; omega) (by first | omega | (simp only [List.length_cons]; omega))
    refine ⟨T', G', v', lp', lq', ?_, by simpa using g2, g3⟩
    rw [List.append_assoc, List.singleton_append, List.length_append, List.length_singleton] at g1
    rw [loopK]
    simp only [EVS, EVN, EVF, reduceIte, Nat.reduceEqDiff, Nat.reduceLeDiff, Nat.reduceLT, Nat.reduceAdd, x118_1, l1, l2, ip, iq, cv, hv, hw, m8, n8, tm, tn, f2, f3, s2, mo_D, moD_len, mo_len, frz_moD, ids_moD, hmd, MDS, hc, hf, pc_len, pc_snoc]
    exact g1
  | @zero x y z u x2 y2 z2 u2 r1 r2 r3 r4 m n ps qs os ps' qs' hm hn hc hf ha hs h ih =>
    intro h12 k12 lp lq k v o G sp sq ho hk
    obtain ⟨k, rfl⟩ : ∃ k', k = k' + 1 := ⟨k - 1, by omega⟩
    simp only [List.length_cons] at ho hk
    obtain rfl := Sl.cons_eq sp
    obtain rfl := Sl.cons_eq sq
    have m8 := hm.1
    have n8 := hn.1
    have tm : (moD m).take 8 = moD m := List.take_of_length_le (by rw [moD_len]; omega)
    have tn : (moD n).take 8 = moD n := List.take_of_length_le (by rw [moD_len]; omega)
    have ip := fun (hh : HF) (kd : IntKind) => sp.idx (h := hh) (k := kd) (i := 0) (sz := 12) rfl (by simp [mo_len, m8])
    have iq := fun (hh : HF) (kd : IntKind) => sq.idx (h := hh) (k := kd) (i := 0) (sz := 12) rfl (by simp [mo_len, n8])
    have s1 := slice1 (c := x :: y :: z :: u :: mo m) (es := ps) fun d hd => h12 d (List.mem_cons_of_mem _ hd)
    have s2 := slice1 (c := x2 :: y2 :: z2 :: u2 :: mo n) (es := qs) fun d hd => k12 d (List.mem_cons_of_mem _ hd)
    have l1 : 0 < ps.length + 1 := by omega
    have l2 : 0 < qs.length + 1 := by omega
    have f2 : (o.length + 1) * 128 ≤ lim := by unfold lim; omega
    have f3 : o.length + 1 ≤ 9223372036854775807 := by omega
    obtain ⟨T', G', v', lp', lq', g1, g2, g3⟩ := ih (fun d hd => h12 d (List.mem_cons_of_mem _ hd)) (fun d hd => k12 d (List.mem_cons_of_mem _ hd)) (.lst ps) (.lst qs) k v o (G ++ [⟨false, 0, 4, [[.p r1, .p r2, .p r3, .p r4]], false, 48⟩]) .lst .lst (by omega) (by omega)
    refine ⟨T', G', v', lp', lq', ?_, g2, g3⟩
    rw [loopK]
    simp only [EVS, EVN, EVF, reduceIte, Nat.reduceEqDiff, Nat.reduceLeDiff, Nat.reduceAdd, x118_1, l1, l2, ip, iq, cv, hv, hw, m8, n8, tm, tn, s1, s2, mo_D, moD_len, mo_len, frz_moD, ids_moD, hmd, MDS, hc, hf, ha, hs]
    exact g1
  | @both x y z u x2 y2 z2 u2 r1 r2 r3 r4 m n s ps qs os ps' qs' hm hn hc hf ha hs h0 h ih =>
    intro h12 k12 lp lq k v o G sp sq ho hk
    obtain ⟨k, rfl⟩ : ∃ k', k = k' + 1 := ⟨k - 1, by omega⟩
    simp only [List.length_cons] at ho hk
    obtain rfl := Sl.cons_eq sp
    obtain rfl := Sl.cons_eq sq
    have m8 := hm.1
    have n8 := hn.1
    have tm : (moD m).take 8 = moD m := List.take_of_length_le (by rw [moD_len]; omega)
    have tn : (moD n).take 8 = moD n := List.take_of_length_le (by rw [moD_len]; omega)
    have ip := fun (hh : HF) (kd : IntKind) => sp.idx (h := hh) (k := kd) (i := 0) (sz := 12) rfl (by simp [mo_len, m8])
    have iq := fun (hh : HF) (kd : IntKind) => sq.idx (h := hh) (k := kd) (i := 0) (sz := 12) rfl (by simp [mo_len, n8])
    have s1 := slice1 (c := x :: y :: z :: u :: mo m) (es := ps) fun d hd => h12 d (List.mem_cons_of_mem _ hd)
    have s2 := slice1 (c := x2 :: y2 :: z2 :: u2 :: mo n) (es := qs) fun d hd => k12 d (List.mem_cons_of_mem _ hd)
    have l1 : 0 < ps.length + 1 := by omega
    have l2 : 0 < qs.length + 1 := by omega
    have f2 : (o.length + 1) * 128 ≤ lim := by unfold lim; omega
    have f3 : o.length + 1 ≤ 9223372036854775807 := by omega
    obtain ⟨T', G', v', lp', lq', g1, g2, g3⟩ := ih (fun d hd => h12 d (List.mem_cons_of_mem _ hd)) (fun d hd => k12 d (List.mem_cons_of_mem _ hd)) (.lst ps) (.lst qs) k (v + 1) (o ++ [(r1 :: r2 :: r3 :: r4 :: mo m)]) (G ++ [⟨false, 0, 4, [[.p r1, .p r2, .p r3, .p r4]], false, 48⟩, ⟨false, 0, 12, [.p r1 :: .p r2 :: .p r3 :: .p r4 :: moD m], false, 75⟩]) .lst .lst (by simp only [List.length_append, List.length_cons, List.length_nil]; omega) (by first | omega | (simp only [List.length_cons]; omega))
    refine ⟨T', G', v', lp', lq', ?_, by simpa using g2, g3⟩
    rw [List.append_assoc, List.singleton_append, List.length_append, List.length_singleton] at g1
    rw [loopK]
    simp only [EVS, EVN, EVF, reduceIte, Nat.reduceEqDiff, Nat.reduceLeDiff, Nat.reduceLT, Nat.reduceAdd, x118_1, l1, l2, ip, iq, cv, hv, hw, m8, n8, tm, tn, f2, f3, s1, s2, mo_D, moD_len, mo_len, frz_moD, ids_moD, hmd, MDS, hc, hf, ha, hs, h0, pc_len, pc_snoc]
    exact g1

end Go.Proofs.YtidginchkjhobaaGreat

namespace Go.Proofs.YtidginchkjhobaaGreat
open Go.Ev Go.Num

theorem id_evt {B : Base} (hB : Std B) : Evt B fun E _ => ∀ x y z u, E.pure 119 [.agg [x, y, z, u]] = some (.agg [x, y, z, u]) := by
  refine ⟨1, fun K n _ hn => ?_⟩
  obtain ⟨n, rfl⟩ : ∃ n', n = n' + 1 := ⟨n - 1, by omega⟩
  intro x y z u
  show (match B.X 119 with
    | some xf => evPureF (B.E K n) K xf [.agg [x, y, z, u]]
    | none => (B.E K n).pure 119 [.agg [x, y, z, u]]) = _
  rw [hB.tab 119 x119 rfl]
  simp only [EVS, EVN, reduceIte, Nat.reduceEqDiff, Nat.reduceLeDiff, Nat.reduceAdd, x119]

/-- Chunks with the form of a term. -/
def TForm (c : List PL) : Prop := ∃ x y z u m, c = x :: y :: z :: u :: mo m ∧ MoOk m

set_option maxRecDepth 100000 in
set_option maxHeartbeats 4000000 in
theorem merge_rest {E : Oracle} {K : Nat} {lq : PL} (hmd : E.mode = md) (hid : ∀ x y z u, E.pure 119 [.agg [x, y, z, u]] = some (.agg [x, y, z, u])) {all : List (List PL)} (sl : Sl lq all) (hl : all.length < 1000000) (hall : ∀ c ∈ all, TForm c) : ∀ (d i k v : Nat) (o : List (List PL)) (G : List Blk), i + d = all.length → d < k → o.length + d < 3000000 →
    ∃ T' G' v', loopK E K 0 [2, 7, 92, 93, 94] x118_2 k ⟨[(2, .one (.p (.fn 119 []))), (7, .one (.own 0 v 0 o.length)), (92, .one (.p lq)), (93, .one (.p (.int .i64 (.ofNat all.length)))), (94, .one (.p (.int .i64 (.ofNat i))))], ⟨false, v, 12, pc o, false, 75⟩ :: G⟩ =
        some (.exit 3, ⟨T', ⟨false, v', 12, pc (o ++ all.drop i), false, 75⟩ :: G'⟩) ∧ getT T' 7 = some (.one (.own 0 v' 0 (o ++ all.drop i).length))
  | _, _, 0, _, _, _, _, h, _ => by omega
  | 0, i, k + 1, v, o, G, hi, _, _ => by
    obtain rfl : i = all.length := by omega
    have : ∃ T', loopK E K 0 [2, 7, 92, 93, 94] x118_2 (k + 1) ⟨[(2, .one (.p (.fn 119 []))), (7, .one (.own 0 v 0 o.length)), (92, .one (.p lq)), (93, .one (.p (.int .i64 (.ofNat all.length)))), (94, .one (.p (.int .i64 (.ofNat all.length))))], ⟨false, v, 12, pc o, false, 75⟩ :: G⟩ =
        some (.exit 3, ⟨T', ⟨false, v, 12, pc o, false, 75⟩ :: G⟩) ∧ getT T' 7 = some (.one (.own 0 v 0 o.length)) := by
      apply ex1
      · rw [loopK]
        simp only [EVS, EVN, reduceIte, Nat.reduceEqDiff, x118_2, Nat.lt_irrefl]
        rfl
      · simp only [EVS, reduceIte, Nat.reduceEqDiff]
    obtain ⟨T', g1, g2⟩ := this
    exact ⟨T', G, v, by simpa using g1, by simpa using g2⟩
  | d + 1, i, k + 1, v, o, G, hi, hk, ho => by
    have hlt : i < all.length := by omega
    obtain ⟨x, y, z, u, m, hc, hm⟩ := hall _ (List.getElem_mem hlt)
    have gq : all[i]? = some (x :: y :: z :: u :: mo m) := by rw [List.getElem?_eq_getElem hlt, hc]
    have dr : all.drop i = (x :: y :: z :: u :: mo m) :: all.drop (i + 1) := by rw [List.drop_eq_getElem_cons hlt, hc]
    have cv : ∀ (h : HF) (l : List DL), opCallV E h [.one (.p (.fn 119 [])), .agg l] = evPure E h 119 [.agg l] := fun _ _ => rfl
    have hv : ∀ (l : List DL), isHeapOp E .callV [.one (.p (.fn 119 [])), .agg l] = isHeapF E 119 := fun _ => rfl
    have hw : isHeapCall E .callV = false := rfl
    have m8 := hm.1
    have tm : (moD m).take 8 = moD m := List.take_of_length_le (by rw [moD_len]; omega)
    have tm2 : (moD m).drop 8 = [] := List.drop_eq_nil_of_le (by rw [moD_len]; omega)
    have ip := fun (hh : HF) (kd : IntKind) => sl.idx (h := hh) (k := kd) (sz := 12) gq (by simp [mo_len, m8])
    have f1 : wrapF .i64 (.ofNat (i + 1)) = .ofNat (i + 1) := wrap_i64 (by omega)
    have f2 : (o.length + 1) * 128 ≤ lim := by unfold lim; omega
    have f3 : o.length + 1 ≤ 9223372036854775807 := by omega
    obtain ⟨T', G', v', g1, g2⟩ := merge_rest hmd hid sl hl hall d (i + 1) k (v + 1) (o ++ [x :: y :: z :: u :: mo m]) (G ++ [⟨false, 0, 12, [.p x :: .p y :: .p z :: .p u :: moD m], false, 75⟩, ⟨false, 0, 12, [.p x :: .p y :: .p z :: .p u :: moD m], false, 75⟩]) (by omega) (by omega) (by simp; omega)
    refine ⟨T', G', v', ?_, by rw [dr]; simpa using g2⟩
    rw [List.append_assoc, List.singleton_append, List.length_append, List.length_singleton, ← dr] at g1
    rw [loopK]
    simp only [EVS, EVN, EVF, reduceIte, Nat.reduceEqDiff, Nat.reduceLeDiff, Nat.reduceLT, Nat.reduceAdd, x118_2, hlt, ip, cv, hv, hw, m8, tm, f1, f2, f3, mo_D, moD_len, hmd, MDS, hid, pc_len, pc_snoc]
    exact g1

end Go.Proofs.YtidginchkjhobaaGreat

namespace Go.Proofs.YtidginchkjhobaaGreat
open Go.Ev Go.Num

theorem IsT.form {c : List PL} {t : Tm} (h : IsT c t) : TForm c := by
  obtain ⟨n, a, d, b, rfl, -, -, h⟩ := h
  exact ⟨_, _, _, _, _, rfl, h⟩
theorem TForm.len {c : List PL} (h : TForm c) : c.length = 12 := by
  obtain ⟨x, y, z, u, m, rfl, h⟩ := h
  simp [mo_len, h.1]
theorem PolyR.forms {es : List (List PL)} {ts : List Tm} (h : PolyR es ts) : ∀ c ∈ es, TForm c := by
  induction h with
  | nil => intro c hc; cases hc
  | cons h _ ih =>
    intro c hc
    rcases List.mem_cons.1 hc with rfl | hc
    · exact IsT.form h
    · exact ih c hc
theorem PolyR.app {es es' : List (List PL)} {ts ts' : List Tm} (h : PolyR es ts) (h' : PolyR es' ts') : PolyR (es ++ es') (ts ++ ts') := by
  induction h with
  | nil => exact h'
  | cons h _ ih => exact .cons h ih

theorem mergeR_evt {B : Base} (hB : Std B) {a b : Nat} (hab : a + b < 4294967296) : ∀ (n : Nat) {ps qs : List (List PL)} {ts us : List Tm}, ts.length + us.length ≤ n → PolyR ps ts → PolyR qs us → Bd a ts → Bd b us →
    ∃ outs ps' qs', PolyR (outs ++ (ps' ++ qs')) (addT ts us) ∧ (Evt B fun E _ => MergeR E ps qs outs ps' qs') ∧ (∀ c ∈ ps', TForm c) ∧ (∀ c ∈ qs', TForm c) ∧ ps'.length ≤ ps.length ∧ qs'.length ≤ qs.length ∧ outs.length ≤ ps.length + qs.length := by
  intro n
  induction n with
  | zero =>
    intro ps qs ts us hn hp hq h1 h2
    cases hp with
    | cons _ _ => simp at hn
    | nil => cases hq with
      | cons _ _ => simp at hn
      | nil => exact ⟨[], [], [], by rw [addT_nil_left]; exact .nil, Evt.of fun _ _ => .stopP, (fun _ h => by cases h), (fun _ h => by cases h), Nat.le_refl _, Nat.le_refl _, by simp⟩
  | succ n ih =>
    intro ps qs ts us hn hp hq h1 h2
    cases hp with
    | nil => exact ⟨[], [], qs, by rw [addT_nil_left]; exact hq, Evt.of fun _ _ => .stopP, (fun _ h => by cases h), PolyR.forms hq, Nat.le_refl _, Nat.le_refl _, by simp⟩
    | @cons c t ps ts ht h => cases hq with
      | nil => exact ⟨[], c :: ps, [], by rw [addT_nil_right]; simpa using (All2.cons ht h : PolyR (c :: ps) (t :: ts)), Evt.of fun _ _ => .stopQ, PolyR.forms (.cons ht h), (fun _ h => by cases h), Nat.le_refl _, Nat.le_refl _, by simp⟩
      | @cons c2 u qs us hu k =>
        simp only [List.length_cons] at hn ⊢
        have b1 : Bd a ts := fun t ht => h1 t (List.mem_cons_of_mem _ ht)
        have b2 : Bd b us := fun t ht => h2 t (List.mem_cons_of_mem _ ht)
        have c1 := h1 t (List.mem_cons_self ..)
        have c2 := h2 u (List.mem_cons_self ..)
        have ht' := ht
        have hu' := hu
        obtain ⟨x, y, z, w, rfl, p1, p2, p3⟩ := ht'
        obtain ⟨x2, y2, z2, w2, rfl, q1, q2, q3⟩ := hu'
        have hc := monoCmp_ret hB p3.1 q3.1
        rw [addT_cons]
        rcases cmpL_cases t.2 u.2 with e | e | e
        · rw [if_pos e]
          rw [e] at hc
          obtain ⟨o, ps', qs', g1, g2, g3, g4, g5, g6, g7⟩ := ih (by simp; omega) h (.cons hu k) b1 h2
          simp only [List.length_cons] at g6 g7
          exact ⟨_, _, _, .cons ht g1, (g2.and hc.evt).mono fun E K ⟨e1, e2⟩ => .left p3 q3 e2 e1, g3, g4, by omega, by omega, by simp; omega⟩
        · rw [if_neg (by rw [e]; simp), if_pos e]
          rw [e] at hc
          obtain ⟨o, ps', qs', g1, g2, g3, g4, g5, g6, g7⟩ := ih (by simp; omega) (.cons ht h) k h1 b2
          simp only [List.length_cons] at g5 g7
          exact ⟨_, _, _, .cons hu g1, (g2.and (hc.evt.and (id_evt hB))).mono fun E K ⟨e1, e2, e3⟩ => .right p3 q3 e2 (e3 _ _ _ _) e1, g3, g4, by omega, by omega, by simp; omega⟩
        · rw [if_neg (by rw [e]; simp), if_neg (by rw [e]; simp)]
          rw [e] at hc
          obtain ⟨o, ps', qs', g1, g2, w3, w4, w5, w6, w7⟩ := ih (by omega) h k b1 b2
          obtain ⟨r, g3, g4⟩ := ratAdd_z hB (x := t.1) (y := u.1) ⟨x, y, z, w, rfl, p1, p2⟩ ⟨x2, y2, z2, w2, rfl, q1, q2⟩ (S31.sm (by unfold S31; omega)) (S31.sm (by unfold S31; omega))
          have g5 := ratSign_z hB g4
          obtain ⟨n', a', d', b', rfl, v1, v2⟩ := g4
          by_cases h0 : t.1 + u.1 = 0
          · rw [if_pos h0]
            rw [h0] at g5
            exact ⟨_, _, _, g1, (g2.and (hc.evt.and (g3.evt.and (g5.evt.and (id_evt hB))))).mono fun E K ⟨e1, e2, e3, e4, e5⟩ => .zero p3 q3 e2 (e5 _ _ _ _) e3 e4 e1, w3, w4, by omega, by omega, by omega⟩
          · rw [if_neg h0]
            refine ⟨(.bool n' :: a' :: .bool d' :: b' :: mo t.2) :: o, ps', qs', .cons (y := (t.1 + u.1, t.2)) ⟨n', a', d', b', rfl, v1, v2, p3⟩ g1, (g2.and (hc.evt.and (g3.evt.and (g5.evt.and (id_evt hB))))).mono fun E K ⟨e1, e2, e3, e4, e5⟩ => .both p3 q3 e2 (e5 _ _ _ _) e3 e4 ?_ e1, w3, w4, by omega, by omega, by simp; omega⟩
            unfold sgn; rw [if_neg h0]; split <;> rfl

theorem pc_app (a b : List (List PL)) : pc a ++ b.map (·.map DL.p) = pc (a ++ b) := by simp [pc]

set_option maxRecDepth 100000 in
set_option maxHeartbeats 4000000 in
theorem polyAdd_ret {B : Base} (hB : Std B) {lp lq : PL} {ts us : List Tm} (hp : PolyS lp ts) (hq : PolyS lq us) {a b : Nat} (hab : a + b < 4294967296) (h1 : Bd a ts) (h2 : Bd b us) (l1 : ts.length < 400000) (l2 : us.length < 400000) :
    ∃ outs, Ret B 68 [.one lp, .one lq] (.one (.lst outs)) ∧ PolyR outs (addT ts us) := by
  obtain ⟨ps, sp, hp⟩ := hp
  obtain ⟨qs, sq, hq⟩ := hq
  have elp := hp.length
  have elq := hq.length
  obtain ⟨o, ps', qs', g1, g2, g3, g4, g5, g6, g7⟩ := mergeR_evt hB hab _ (Nat.le_refl _) hp hq h1 h2
  have hmg : Ret B 118 [.one lp, .one lq, .one (.fn 119 [])] (.one (.lst (o ++ (ps' ++ qs')))) := by
    refine Ret.of (hB.tab _ _ rfl) ((g2.and ((id_evt hB).and (hB.evt.and (Evt.ge (ps.length + qs.length + 1))))).mono fun E K ⟨e1, hid, hmd, hK⟩ => ?_)
    obtain ⟨T', G', v', lp', lq', k1, ⟨k2, k3, k4, k5⟩, k6, k7⟩ := merge_go (K := K) hmd ps qs o ps' qs' e1 (fun d hd => TForm.len (PolyR.forms hp d hd)) (fun d hd => TForm.len (PolyR.forms hq d hd)) lp lq K 0 [] [] sp sq (by simp; omega) (by omega)
    simp only [List.nil_append, List.length_nil] at k1 k5
    obtain ⟨T2, G2, v2, m1, m2⟩ := merge_rest (K := K) hmd hid k7 (by omega) g4 qs'.length 0 K (v' + 1) (o ++ ps') G' (by omega) (by omega) (by simp; omega)
    rw [List.drop_zero, List.append_assoc] at m1 m2
    have f0 : wrapF .i64 (.ofNat (ps.length + qs.length)) = .ofNat (ps.length + qs.length) := wrap_i64 (by omega)
    have f1 : 128 * (ps.length + qs.length) ≤ lim := by unfold lim; omega
    have f2 : ps.length + qs.length ≤ 9223372036854775807 := by omega
    have f3 : (o.length + ps'.length) * 128 ≤ lim := by unfold lim; omega
    have f4 : o.length + ps'.length ≤ 9223372036854775807 := by omega
    have f5 : (ps'.map (·.map DL.p)).all (fun c => decide (c.length = 12)) = true := by
      rw [List.all_eq_true]
      intro c hc
      simp only [List.mem_map] at hc
      obtain ⟨d, hd, rfl⟩ := hc
      simp [TForm.len (g3 d hd)]
    have f6 : (ps'.map (·.map DL.p)).length = ps'.length := by simp
    have hpc0 : ([] : List (List DL)) = pc [] := rfl
    have ht := pc_take (o ++ (ps' ++ qs')) (Nat.le_refl _)
    have hf := fun h => frz_pc 5 h (o ++ (ps' ++ qs'))
    have m1' := m1
    rw [List.length_append] at m1'
    have k1' := k1
    simp only [pc, List.map_nil] at k1'
    simp only [EVS, EVN, reduceIte, Nat.reduceEqDiff, Nat.reduceLeDiff, Nat.reduceAdd, Nat.zero_le, x118, sp.len, sq.len, f0, f1, f2]
    have hcp := fun h => k6.chunks (h := h)
    have hpl : (List.map (fun x => List.map DL.p x) o).length = o.length := by simp
    have hpa := pc_app o ps'
    simp only [pc] at hpa
    simp only [EVS, EVN, reduceIte, Nat.reduceEqDiff, Nat.reduceLeDiff, k1', k2, k3, k4, k5, hcp, f3, f4, f5, f6, hpl, hpa, k7.len]
    simp only [pc] at m1' ht hf
    rw [m1']
    simp only [EVS, EVN, reduceIte, Nat.reduceEqDiff, beq_self_eq_true, m2, ht, hf, List.length_map, Nat.le_refl]
  refine ⟨_, Ret.of (hB.tab _ _ rfl) ((hmg.evt.and hB.evt).mono fun E K ⟨e1, hmd⟩ => ?_), g1⟩
  simp only [EVS, EVN, reduceIte, Nat.reduceEqDiff, Nat.reduceLeDiff, Nat.reduceAdd, x68, hmd, MDS, e1]

end Go.Proofs.YtidginchkjhobaaGreat
