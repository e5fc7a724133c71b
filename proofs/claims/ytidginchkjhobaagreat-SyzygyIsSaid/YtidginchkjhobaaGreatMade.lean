/- Polynomials out of raw numbers: one term. -/
import Derived.Test.YtidginchkjhobaaGreatPq
namespace Go.Proofs.YtidginchkjhobaaGreat
open Go.Ev Go.Num

theorem wrap_in {z : Int} (h1 : -9223372036854775808 ≤ z) (h2 : z < 9223372036854775808) : wrapF .i64 z = z := by
  rw [wrapF_eq]
  simp [IntKind.wrap, IntKind.bits, IntKind.signed]
  omega

set_option maxRecDepth 100000 in
set_option maxHeartbeats 4000000 in
theorem abs_ret {B : Base} (hB : Std B) {a : Int} (h1 : -128 ≤ a) (h2 : a ≤ 127) : Ret B 73 [.one (.int .i8 a)] (.one (.int .i64 (.ofNat a.natAbs))) := by
  refine Ret.of (hB.tab _ _ rfl) (hB.evt.mono fun E K hmd => ?_)
  cases a with
  | ofNat n =>
    have f1 : wrapF .i64 (.ofNat n) = .ofNat n := wrap_in (by omega) (by omega)
    have f2 : ¬ n < 0 := by omega
    simp only [EVS, EVN, reduceIte, Nat.reduceEqDiff, Nat.reduceLeDiff, x73, f1, f2, Int.natAbs]
  | negSucc n =>
    have f1 : wrapF .i64 (.negSucc n) = .negSucc n := wrap_in (by omega) (by omega)
    have f3 : (0 : Int) - Int.negSucc n = .ofNat (n + 1) := by simp only [Int.ofNat_eq_natCast]; omega
    have f2 : wrapF .i64 (.ofNat (n + 1)) = .ofNat (n + 1) := wrap_in (by simp only [Int.ofNat_eq_natCast]; omega) (by simp only [Int.ofNat_eq_natCast]; omega)
    have f4 : opUn .neg [.one (.p (.int .i64 (.negSucc n)))] = some ⟨.one (.p (.int .i64 (.ofNat (n + 1)))), [], [], []⟩ := by
      show some (Res.pure (.one (.p (.int .i64 (wrapF .i64 (0 - .negSucc n)))))) = _
      rw [f3, f2]; rfl
    simp only [EVS, EVN, reduceIte, Nat.reduceEqDiff, Nat.reduceLeDiff, x73, f1, f4, Int.natAbs]

/-- The exponents of a row's monomial in two variables. -/
def e1 (d : Nat) (a : Int) : Nat := a.natAbs % (d + 1)
def e2 (d : Nat) (a b : Int) : Nat := b.natAbs % (d - e1 d a + 1)
def mk2 (d : Nat) (a b : Int) : List Nat := [e1 d a, e2 d a b, 0, 0, 0, 0, 0, 0]
theorem e1_le (d : Nat) (a : Int) : e1 d a ≤ d := by unfold e1; have := Nat.mod_lt a.natAbs (show 0 < d + 1 by omega); omega
theorem e2_le (d : Nat) (a b : Int) : e2 d a b ≤ d := by unfold e2; have := Nat.mod_lt b.natAbs (show 0 < d - e1 d a + 1 by omega); omega

def raw5 (a0 a1 a2 a3 a4 : Int) : List PL := [.int .i8 a0, .int .i8 a1, .int .i8 a2, .int .i8 a3, .int .i8 a4]

abbrev moB (m : List Nat) : Blk := ⟨false, 0, 8, [moD m], false, 73⟩

set_option maxRecDepth 100000 in
set_option maxHeartbeats 8000000 in
theorem inner_go {E : Oracle} {K : Nat} (hmd : E.mode = md) {R : PL} {rows : List (List PL)} (hR : Sl R rows) {d tm i : Nat} {a0 a1 a2 a3 a4 : Int} (hrow : rows[i]? = some (raw5 a0 a1 a2 a3 a4)) (hd : d < 100)
    (h1 : E.pure 73 [.one (.int .i8 a1)] = some (.one (.int .i64 (.ofNat a1.natAbs)))) (h2 : E.pure 73 [.one (.int .i8 a2)] = some (.one (.int .i64 (.ofNat a2.natAbs)))) {o : DV} (k : Nat) (G : List Blk) (t : Nat) :
    ∃ T', loopK E K 0 [1, 2, 3, 4, 9, 10, 11, 12, 13] x34_1 (k + 3) ⟨[(1, .one (.p (.int .i64 (.ofNat 2)))), (2, .one (.p (.int .i64 (.ofNat d)))), (3, .one (.p (.int .i64 (.ofNat tm)))), (4, .one (.ptr 0 0 0 0)), (9, o), (10, .one (.p (.int .i64 (.ofNat i)))), (11, .one (.ptr (G.length + 1) 0 0 0)), (12, .one (.p (.int .i64 (.ofNat d)))), (13, .one (.p (.int .i64 (.ofNat 0))))], ⟨false, 0, 1, [[.p R]], false, t⟩ :: (G ++ [moB zM])⟩ =
      some (.exit 2, ⟨T', ⟨false, 0, 1, [[.p R]], false, t⟩ :: (G ++ [moB (mk2 d a1 a2)])⟩) ∧ getT T' 1 = some (.one (.p (.int .i64 (.ofNat 2)))) ∧ getT T' 2 = some (.one (.p (.int .i64 (.ofNat d)))) ∧ getT T' 3 = some (.one (.p (.int .i64 (.ofNat tm)))) ∧ getT T' 4 = some (.one (.ptr 0 0 0 0)) ∧ getT T' 9 = some o ∧ getT T' 10 = some (.one (.p (.int .i64 (.ofNat i)))) ∧ getT T' 11 = some (.one (.ptr (G.length + 1) 0 0 0)) := by
  have hidx := fun (hh : HF) (kd : IntKind) => hR.idx (h := hh) (k := kd) (sz := 5) hrow rfl
  have hidx' : ∀ (hh : HF) (kd : IntKind), opIndexS 5 hh [.one (.p R), .one (.p (.int kd (.ofNat i)))] = some ⟨.one (.p (.ref [.int .i8 a0, .int .i8 a1, .int .i8 a2, .int .i8 a3, .int .i8 a4])), [], [], []⟩ := hidx
  have l1 := e1_le d a1
  have l2 := e2_le d a1 a2
  have w0 : wrapF .i64 (.ofNat 1) = .ofNat 1 := rfl
  have w2 : wrapF .i64 (.ofNat 2) = .ofNat 2 := rfl
  have f1 : wrapF .i64 (.ofNat (d + 1)) = .ofNat (d + 1) := wrap_i64 (by omega)
  have f2 : wrapF .i64 (.ofNat (e1 d a1)) = .ofNat (e1 d a1) := wrap_i64 (by omega)
  have f3 : wrapF .i64 (Int.ofNat d - Int.ofNat (e1 d a1)) = .ofNat (d - e1 d a1) := sub_i64 l1 (by omega)
  have f4 : wrapF .i64 (.ofNat (d - e1 d a1 + 1)) = .ofNat (d - e1 d a1 + 1) := wrap_i64 (by omega)
  have f5 : wrapF .i64 (Int.ofNat (d - e1 d a1) - Int.ofNat (e2 d a1 a2)) = .ofNat (d - e1 d a1 - e2 d a1 a2) := by
    refine sub_i64 ?_ (by omega)
    unfold e2; have := Nat.mod_lt a2.natAbs (show 0 < d - e1 d a1 + 1 by omega); omega
  have m1 : a1.natAbs % (d + 1) = e1 d a1 := rfl
  have m2 : a2.natAbs % (d - e1 d a1 + 1) = e2 d a1 a2 := rfl
  apply ex1
  · rw [loopK]
    simp only [EVS, EVG, EVN, EVF, reduceIte, Nat.reduceEqDiff, Nat.reduceLeDiff, Nat.reduceLT, Nat.reduceAdd, x34_1, hidx', hmd, MDS, h1, w0, f1, f3, m1, zM, moD, Nat.mul_one, Nat.zero_le]
    rw [loopK]
    simp only [EVS, EVG, EVN, EVF, reduceIte, Nat.reduceEqDiff, Nat.reduceLeDiff, Nat.reduceLT, Nat.reduceAdd, hidx', hmd, MDS, h2, w2, f4, f5, m2, Nat.mul_one, Nat.zero_le]
    rw [loopK]
    simp only [EVS, EVN, EVF, reduceIte, Nat.reduceEqDiff, Nat.reduceLT]
    rfl
  · simp only [EVS, reduceIte, Nat.reduceEqDiff, and_self]

end Go.Proofs.YtidginchkjhobaaGreat

namespace Go.Proofs.YtidginchkjhobaaGreat
open Go.Ev Go.Num

def rowZ (a0 : Int) : Int := Int.tmod a0 4
theorem rowZ_bd (a0 : Int) : (rowZ a0).natAbs ≤ 3 := by
  unfold rowZ
  have := Int.tmod_lt_of_pos a0 (show (0 : Int) < 4 by decide)
  have := Int.lt_tmod_of_pos a0 (show (0 : Int) < 4 by decide)
  omega
def rowT (d : Nat) (a0 a1 a2 : Int) : List Tm := if rowZ a0 = 0 then [] else [(rowZ a0 * 1, mk2 d a1 a2)]

/-- What Made meets, row by row. -/
inductive MadeR (E : Oracle) (d : Nat) : List (List PL) → PL → PL → Prop
  | nil {r : PL} : MadeR E d [] r r
  | cons {a0 a1 a2 a3 a4 : Int} {c1 c2 c3 c4 q1 q2 q3 q4 s r rf : PL} {r2 : List (List PL)} {rows : List (List PL)} (h1 : E.pure 73 [.one (.int .i8 a1)] = some (.one (.int .i64 (.ofNat a1.natAbs)))) (h2 : E.pure 73 [.one (.int .i8 a2)] = some (.one (.int .i64 (.ofNat a2.natAbs))))
      (h3 : E.pure 18 [.one (.int .i64 (rowZ a0))] = some (.agg [c1, c2, c3, c4])) (h4 : E.pure 18 [.one (.int .i64 (.ofNat 1))] = some (.agg [q1, q2, q3, q4]))
      (h5 : E.pure 17 [.agg [c1, c2, c3, c4], .one (.lst [q1 :: q2 :: q3 :: q4 :: mo (mk2 d a1 a2)])] = some (.one s)) (h6 : E.pure 10 [.one r, .one s] = some (.one (.lst r2))) (h : MadeR E d rows (.lst r2) rf) :
      MadeR E d (raw5 a0 a1 a2 a3 a4 :: rows) r rf

theorem rem4 (a : Int) : binRem .i8 a (.ofNat 4) = some (.p (.int .i8 (rowZ a))) := rfl

set_option maxRecDepth 100000 in
set_option maxHeartbeats 8000000 in
theorem made_go {E : Oracle} {K : Nat} (hmd : E.mode = md) {R : PL} {all : List (List PL)} (hR : Sl R all) {d tm : Nat} (hd : d < 100) (htm : tm < 1000) (hK : 3 ≤ K) (t : Nat) : ∀ (rest : List (List PL)) (r rf : PL), MadeR E d rest r rf →
    ∀ (i k : Nat) (G : List Blk), (all.take tm).drop i = rest → i + rest.length = (all.take tm).length → rest.length < k →
    ∃ T' G', loopK E K 0 [1, 2, 3, 4, 9, 10] x34_2 k ⟨[(1, .one (.p (.int .i64 (.ofNat 2)))), (2, .one (.p (.int .i64 (.ofNat d)))), (3, .one (.p (.int .i64 (.ofNat tm)))), (4, .one (.ptr 0 0 0 0)), (9, .one (.p r)), (10, .one (.p (.int .i64 (.ofNat i))))], ⟨false, 0, 1, [[.p R]], false, t⟩ :: G⟩ =
      some (.exit 0, ⟨T', ⟨false, 0, 1, [[.p R]], false, t⟩ :: G'⟩) ∧ getT T' 9 = some (.one (.p rf)) := by
  intro rest r rf h
  induction h with
  | @nil r =>
    intro i k G _ hi hk
    obtain ⟨k, rfl⟩ : ∃ k', k = k' + 1 := ⟨k - 1, by omega⟩
    simp only [List.length_nil, Nat.add_zero, List.length_take] at hi
    by_cases hlt : i < all.length
    · have h2 : ¬ i < tm := by omega
      apply ex2
      · rw [loopK]
        simp only [EVS, EVN, Nat.zero_le, reduceIte, Nat.reduceEqDiff, x34_2, hR.len, hlt, h2]
        rfl
      · simp only [EVS, reduceIte, Nat.reduceEqDiff]
    · skip
      apply ex2
      · rw [loopK]
        simp only [EVS, EVN, Nat.zero_le, reduceIte, Nat.reduceEqDiff, x34_2, hR.len, hlt]
        rfl
      · simp only [EVS, reduceIte, Nat.reduceEqDiff]
  | @cons a0 a1 a2 a3 a4 c1 c2 c3 c4 q1 q2 q3 q4 s r rf r2 rows h1 h2 h3 h4 h5 h6 h ih =>
    intro i k G hdr hi hk
    obtain ⟨k, rfl⟩ : ∃ k', k = k' + 1 := ⟨k - 1, by omega⟩
    simp only [List.length_cons, List.length_take] at hi hk
    have hlt : i < all.length := by omega
    have hlt2 : i < tm := by omega
    obtain ⟨gq, dq⟩ := drop_cons_get hdr
    have grow : all[i]? = some (raw5 a0 a1 a2 a3 a4) := by rw [List.getElem?_take, if_pos hlt2] at gq; exact gq
    have hidx := fun (hh : HF) (kd : IntKind) => hR.idx (h := hh) (k := kd) (sz := 5) grow rfl
    have hidx' : ∀ (hh : HF) (kd : IntKind), opIndexS 5 hh [.one (.p R), .one (.p (.int kd (.ofNat i)))] = some ⟨.one (.p (.ref [.int .i8 a0, .int .i8 a1, .int .i8 a2, .int .i8 a3, .int .i8 a4])), [], [], []⟩ := hidx
    obtain ⟨K', rfl⟩ : ∃ K', K = K' + 3 := ⟨K - 3, by omega⟩
    obtain ⟨T1, i1, i2, i3, i4, i5, i6, i7, i8⟩ := inner_go (K := K' + 3) (d := d) (tm := tm) hmd hR grow hd h1 h2 (o := .one (.p r)) K' G t
    have f1 : wrapF .i64 (.ofNat (i + 1)) = .ofNat (i + 1) := wrap_i64 (by omega)
    have f2 : wrapF .i64 (rowZ a0) = rowZ a0 := by have := rowZ_bd a0; exact wrap_in (by omega) (by omega)
    have hm8 : (mk2 d a1 a2).length = 8 := rfl
    have t1 : (moD (mk2 d a1 a2)).take 8 = moD (mk2 d a1 a2) := rfl
    have d1 : (moD (mk2 d a1 a2)).drop 8 = [] := rfl
    generalize hmk : mk2 d a1 a2 = mm at i1 h5 hm8 t1 d1
    simp only [moB, zM, moD, List.map_cons, List.map_nil] at i1
    have i1 : _ = some (Ex.exit 2, (⟨T1, ⟨false, 0, 1, [[.p R]], false, t⟩ :: (G ++ [⟨false, 0, 8, [moD mm], false, 73⟩])⟩ : St)) := i1
    have scl : PL.scalar (.lst r2) = false := rfl
    cases hsc : s.scalar with
    | true =>
      rw [loopK]
      simp only [EVS, EVH, EVG, EVN, EVF, reduceIte, Nat.reduceEqDiff, Nat.reduceLeDiff, Nat.reduceLT, Nat.reduceAdd, x34_2, hR.len, hlt, hlt2, hidx', hmd, MDS, i1, i2, i3, i4, i5, i6, i7, i8, Nat.mul_one, Nat.zero_le, rem4, f1, f2, h3, h4, h5, h6, hm8, t1, moD_len, frz_moD, ids_moD, hsc, scl, List.append_assoc, ite_self]
      exact ih (i + 1) k _ dq (by rw [List.length_take]; omega) (by omega)
    | false =>
      rw [loopK]
      simp only [EVS, EVH, EVG, EVN, EVF, reduceIte, Nat.reduceEqDiff, Nat.reduceLeDiff, Nat.reduceLT, Nat.reduceAdd, x34_2, hR.len, hlt, hlt2, hidx', hmd, MDS, i1, i2, i3, i4, i5, i6, i7, i8, Nat.mul_one, Nat.zero_le, rem4, f1, f2, h3, h4, h5, h6, hm8, t1, moD_len, frz_moD, ids_moD, hsc, scl, List.append_assoc, ite_self]
      exact ih (i + 1) k _ dq (by rw [List.length_take]; omega) (by omega)

end Go.Proofs.YtidginchkjhobaaGreat

namespace Go.Proofs.YtidginchkjhobaaGreat
open Go.Ev Go.Num

set_option maxRecDepth 100000 in
set_option maxHeartbeats 8000000 in
theorem made_first {E : Oracle} {K : Nat} (hmd : E.mode = md) {R : PL} {all : List (List PL)} (hR : Sl R all) {d tm : Nat} (hd : d < 100) (htm : tm < 1000) (hK : 3 ≤ K) (t : Nat) {rest : List (List PL)} {rf : PL} (h : MadeR E d rest (.lst []) rf) (hne : rest ≠ []) (hdr : all.take tm = rest) (hk : rest.length < K) :
    ∃ T' G', loopK E K 0 [1, 2, 3, 4, 9, 10] x34_2 K ⟨[(1, .one (.p (.int .i64 (.ofNat 2)))), (2, .one (.p (.int .i64 (.ofNat d)))), (3, .one (.p (.int .i64 (.ofNat tm)))), (4, .one (.ptr 0 0 0 0)), (9, .one (.own 1 0 0 0)), (10, .one (.p (.int .i64 (.ofNat 0))))], [⟨false, 0, 1, [[.p R]], false, t⟩, ⟨false, 0, 12, [], false, 75⟩]⟩ =
      some (.exit 0, ⟨T', ⟨false, 0, 1, [[.p R]], false, t⟩ :: G'⟩) ∧ getT T' 9 = some (.one (.p rf)) := by
  cases h with
  | nil => exact absurd rfl hne
  | @cons a0 a1 a2 a3 a4 c1 c2 c3 c4 q1 q2 q3 q4 s _ _ r2 rows h1 h2 h3 h4 h5 h6 h =>
  obtain ⟨k, rfl⟩ : ∃ k', K = k' + 3 := ⟨K - 3, by omega⟩
  have hll := congrArg List.length hdr
  simp only [List.length_cons, List.length_take] at hll hk
  have hlt : 0 < all.length := by omega
  have hlt2 : 0 < tm := by omega
  have hdr0 : (all.take tm).drop 0 = raw5 a0 a1 a2 a3 a4 :: rows := by rw [List.drop_zero]; exact hdr
  obtain ⟨gq, dq⟩ := drop_cons_get hdr0
  have grow : all[0]? = some (raw5 a0 a1 a2 a3 a4) := by rw [List.getElem?_take, if_pos hlt2] at gq; exact gq
  have hidx := fun (hh : HF) (kd : IntKind) => hR.idx (h := hh) (k := kd) (sz := 5) grow rfl
  have hidx' : ∀ (hh : HF) (kd : IntKind), opIndexS 5 hh [.one (.p R), .one (.p (.int kd (.ofNat 0)))] = some ⟨.one (.p (.ref [.int .i8 a0, .int .i8 a1, .int .i8 a2, .int .i8 a3, .int .i8 a4])), [], [], []⟩ := hidx
  obtain ⟨T1, i1, i2, i3, i4, i5, i6, i7, i8⟩ := inner_go (K := k + 3) (d := d) (tm := tm) hmd hR grow hd h1 h2 (o := .one (.own 1 0 0 0)) k [⟨false, 0, 12, [], false, 75⟩] t
  have f1 : wrapF .i64 (.ofNat (0 + 1)) = .ofNat (0 + 1) := rfl
  have f1' : wrapF .i64 (.ofNat 1) = .ofNat 1 := rfl
  have f2 : wrapF .i64 (rowZ a0) = rowZ a0 := by have := rowZ_bd a0; exact wrap_in (by omega) (by omega)
  have hm8 : (mk2 d a1 a2).length = 8 := rfl
  have t1 : (moD (mk2 d a1 a2)).take 8 = moD (mk2 d a1 a2) := rfl
  have d1 : (moD (mk2 d a1 a2)).drop 8 = [] := rfl
  generalize hmk : mk2 d a1 a2 = mm at i1 h5 hm8 t1 d1
  simp only [moB, zM, moD, List.map_cons, List.map_nil, List.length_cons, List.length_nil, Nat.reduceAdd, List.cons_append, List.nil_append] at i1 i8
  have i1 : _ = some (Ex.exit 2, (⟨T1, [⟨false, 0, 1, [[.p R]], false, t⟩, ⟨false, 0, 12, [], false, 75⟩, ⟨false, 0, 8, [moD mm], false, 73⟩]⟩ : St)) := i1
  have scl : PL.scalar (.lst r2) = false := rfl
  cases hsc : s.scalar with
  | true =>
    rw [loopK]
    simp (decide := true) only [EVS, EVH, EVN, reduceIte, Nat.reduceAdd, x34_2, hR.len, hlt, hlt2, hidx', hmd, MDS, i1, i2, i3, i4, i5, i6, i7, i8, Nat.mul_one, rem4, f1, f2, h3, h4, h5, h6, hm8, t1, moD_len, frz_moD, ids_moD, hsc, scl, ite_self]
    exact made_go (K := k + 3) hmd hR hd htm hK t rows _ _ h 1 _ _ dq (by rw [List.length_take]; omega) (by omega)
  | false =>
    rw [loopK]
    simp (decide := true) only [EVS, EVH, EVN, reduceIte, Nat.reduceAdd, x34_2, hR.len, hlt, hlt2, hidx', hmd, MDS, i1, i2, i3, i4, i5, i6, i7, i8, Nat.mul_one, rem4, f1, f2, h3, h4, h5, h6, hm8, t1, moD_len, frz_moD, ids_moD, hsc, scl, ite_self]
    exact made_go (K := k + 3) hmd hR hd htm hK t rows _ _ h 1 _ _ dq (by rw [List.length_take]; omega) (by omega)

end Go.Proofs.YtidginchkjhobaaGreat

namespace Go.Proofs.YtidginchkjhobaaGreat
open Go.Ev Go.Num

def RawRow (c : List PL) : Prop := ∃ a0 a1 a2 a3 a4 : Int, c = raw5 a0 a1 a2 a3 a4 ∧ (-128 ≤ a0 ∧ a0 ≤ 127) ∧ (-128 ≤ a1 ∧ a1 ≤ 127) ∧ (-128 ≤ a2 ∧ a2 ≤ 127) ∧ (-128 ≤ a3 ∧ a3 ≤ 127)
/-- A raw polynomial. -/
def RawPoly (R : PL) : Prop := ∃ rs, Sl R rs ∧ ∀ c ∈ rs, RawRow c

theorem mk2_ok {d : Nat} (hd : d ≤ 65535) (a b : Int) : MoOk (mk2 d a b) := by
  have := e1_le d a
  have := e2_le d a b
  refine ⟨rfl, fun e he => ?_⟩
  simp only [mk2, List.mem_cons, List.not_mem_nil, or_false] at he
  rcases he with rfl | rfl | rfl | rfl | rfl | rfl | rfl | rfl <;> omega

theorem madeR_evt {B : Base} (hB : Std B) {d : Nat} (hd : d < 100) : ∀ {rows : List (List PL)}, (∀ c ∈ rows, RawRow c) → ∀ {r : PL} {acc : List Tm} {c n : Nat}, Pq r acc c d n → c + rows.length * 3 < 4294967296 → n + rows.length < 100000 →
    ∃ rf fs, (Evt B fun E _ => MadeR E d rows r rf) ∧ Pq rf fs (c + rows.length * 3) d (n + rows.length)
  | [], _, r, acc, c, n, hr, _, _ => ⟨r, acc, Evt.of fun _ _ => .nil, by simpa using hr⟩
  | row :: rows, hrow, r, acc, c, n, hr, hc, hn => by
    obtain ⟨a0, a1, a2, a3, a4, rfl, -, b1, b2, -⟩ := hrow row (List.mem_cons_self ..)
    have hz := rowZ_bd a0
    simp only [List.length_cons, Nat.add_mul, Nat.one_mul] at hc hn ⊢
    have g1 := abs_ret hB b1.1 b1.2
    have g2 := abs_ret hB b2.1 b2.2
    obtain ⟨cz, g3, hcz⟩ := rWhole_ret hB (x := rowZ a0) (by unfold S31; omega)
    obtain ⟨co, g4, hco⟩ := rWhole_ret hB (x := .ofNat 1) (by unfold S31; decide)
    obtain ⟨q1, q2, q3, q4, rfl, w1, w2⟩ := hco
    have hmo := mk2_ok (show d ≤ 65535 by omega) a1 a2
    have hl : PolyS (.lst [.bool q1 :: q2 :: .bool q3 :: q4 :: mo (mk2 d a1 a2)]) [(1, mk2 d a1 a2)] := ⟨_, .lst, .cons ⟨q1, q2, q3, q4, rfl, w1, w2, hmo⟩ .nil⟩
    obtain ⟨s, g5, hs⟩ := rscale_ret hB hcz (by unfold S31; omega) hl (fun t ht => by simp at ht; subst ht; show S31 1; unfold S31; decide) (by simp)
    have hps : Pq s (rowT d a0 a1 a2) 3 d 1 := by
      unfold rowT
      by_cases h0 : rowZ a0 = 0
      · rw [if_pos h0] at hs ⊢
        exact ⟨hs, (fun _ h => by cases h), (fun _ h => by cases h), .nil, by simp⟩
      · rw [if_neg h0] at hs ⊢
        refine ⟨hs, fun t ht => ?_, fun t ht => ?_, ⟨fun t ht => ?_, by simp⟩, by simp⟩
        · simp at ht; subst ht; simp only [Int.mul_one]; omega
        · simp at ht; subst ht
          have := e1_le d a1
          have := e2_le d a1 a2
          refine ⟨rfl, fun e he => ?_⟩
          simp only [mk2, List.mem_cons, List.not_mem_nil, or_false] at he
          rcases he with rfl | rfl | rfl | rfl | rfl | rfl | rfl | rfl <;> omega
        · simp at ht; subst ht; simpa using h0
    obtain ⟨o, g6, g7⟩ := hr.radd hB hps (by omega) (by omega) (by omega)
    rw [Nat.max_self] at g7
    obtain ⟨rf, fs, k1, k2⟩ := madeR_evt hB hd (fun c hc => hrow c (List.mem_cons_of_mem _ hc)) g7 (by omega) (by omega)
    obtain ⟨c1, c2, c3, c4, rfl, -, -⟩ := hcz
    exact ⟨rf, fs, (k1.and (g1.evt.and (g2.evt.and (g3.evt.and (g4.evt.and (g5.evt.and g6.evt)))))).mono fun E K ⟨e0, e1, e2, e3, e4, e5, e6⟩ => .cons e1 e2 e3 e4 e5 e6 e0, k2.mono (by omega) (Nat.le_refl _) (by omega)⟩

set_option maxRecDepth 100000 in
set_option maxHeartbeats 4000000 in
theorem made_ret {B : Base} (hB : Std B) {R : PL} (hR : RawPoly R) {d tm : Nat} (hd : d < 100) (htm : tm < 1000) :
    ∃ r ts, Ret B 34 [.agg [R], .one (.int .i64 (.ofNat 2)), .one (.int .i64 (.ofNat d)), .one (.int .i64 (.ofNat tm))] (.one r) ∧ Pq r ts (tm * 3) d tm := by
  obtain ⟨rs, sR, hrs⟩ := hR
  have h0 : Pq (.lst []) [] 0 d 0 := ⟨⟨[], .lst, .nil⟩, (fun _ h => by cases h), (fun _ h => by cases h), .nil, Nat.zero_le _⟩
  have hlen : (rs.take tm).length ≤ tm := by rw [List.length_take]; omega
  obtain ⟨rf, fs, g1, g2⟩ := madeR_evt hB hd (rows := rs.take tm) (fun c hc => hrs c (List.mem_of_mem_take hc)) h0 (by omega) (by omega)
  by_cases hne : rs.take tm = []
  · rw [hne] at g1 g2
    refine ⟨.lst [], [], Ret.of (hB.tab _ _ rfl) ((hB.evt.and (Evt.ge 1)).mono fun E K ⟨hmd, hK⟩ => ?_), h0.mono (by omega) (Nat.le_refl _) (by omega)⟩
    obtain ⟨K', rfl⟩ : ∃ K', K = K' + 1 := ⟨K - 1, by omega⟩
    have hl0 : tm = 0 ∨ rs.length = 0 := by
      have := congrArg List.length hne
      simp only [List.length_take, List.length_nil] at this; omega
    by_cases h1 : 0 < rs.length
    · have h2 : ¬ 0 < tm := by omega
      simp only [EVS, EVN, reduceIte, Nat.reduceEqDiff, Nat.reduceLeDiff, Nat.reduceAdd, Nat.zero_le, x34, x34_2, loopK, sR.len, h1, h2]
    · simp only [EVS, EVN, reduceIte, Nat.reduceEqDiff, Nat.reduceLeDiff, Nat.reduceAdd, Nat.zero_le, x34, x34_2, loopK, sR.len, h1]
  · refine ⟨rf, fs, Ret.of (hB.tab _ _ rfl) ((g1.and (hB.evt.and (Evt.ge (rs.length + tm + 4)))).mono fun E K ⟨e1, hmd, hK⟩ => ?_), g2.mono (by omega) (Nat.le_refl _) (by omega)⟩
    obtain ⟨T', G', k1, k2⟩ := made_first (K := K) hmd sR hd htm (by omega) 27 e1 hne rfl (by rw [List.length_take]; omega)
    simp only [EVS, EVN, reduceIte, Nat.reduceEqDiff, Nat.reduceLeDiff, Nat.reduceAdd, x34, k1, k2]

end Go.Proofs.YtidginchkjhobaaGreat

namespace Go.Proofs.YtidginchkjhobaaGreat
open Go.Ev Go.Num

theorem poly_ret {B : Base} (hB : Std B) {R : PL} (hR : RawPoly R) : ∃ r ts, Ret B 9 [.agg [R]] (.one r) ∧ Pq r ts 6 1 2 := by
  obtain ⟨r, ts, g1, g2⟩ := made_ret hB hR (d := 1) (tm := 2) (by omega) (by omega)
  refine ⟨r, ts, Ret.of (hB.tab _ _ rfl) ((g1.evt.and hB.evt).mono fun E K ⟨e1, hmd⟩ => ?_), g2⟩
  simp only [EVS, EVN, reduceIte, Nat.reduceEqDiff, Nat.reduceLeDiff, Nat.zero_le, x9, hmd, MDS, e1]

/-- What List meets. -/
inductive ListR (E : Oracle) (d tm : Nat) : List (List PL) → List PL → Prop
  | nil : ListR E d tm [] []
  | cons {R r : PL} {ls : List (List PL)} {rs : List PL} (h1 : E.pure 34 [.agg [R], .one (.int .i64 (.ofNat 2)), .one (.int .i64 (.ofNat d)), .one (.int .i64 (.ofNat tm))] = some (.one r)) (h : ListR E d tm ls rs) : ListR E d tm ([R] :: ls) (r :: rs)

theorem pc_snoc1 (es : List PL) (r : PL) : pc (onesP es) ++ [[.p r]] = pc (onesP (es ++ [r])) := by simp [pc, onesP]

set_option maxRecDepth 100000 in
set_option maxHeartbeats 8000000 in
theorem list_go {E : Oracle} {K : Nat} (hmd : E.mode = md) {L : PL} {all : List (List PL)} (sL : Sl L all) {d tm mx : Nat} (hmx : mx < 1000) : ∀ (rest : List (List PL)) (rs : List PL), ListR E d tm rest rs →
    ∀ (i k v : Nat) (o : List PL) (G : List Blk), (all.take mx).drop i = rest → i + rest.length = (all.take mx).length → o.length = i → rest.length < k →
    ∃ T' G' v', loopK E K 0 [0, 1, 2, 3, 4, 11, 12] x33_1 k ⟨[(0, .one (.p L)), (1, .one (.p (.int .i64 (.ofNat 2)))), (2, .one (.p (.int .i64 (.ofNat d)))), (3, .one (.p (.int .i64 (.ofNat tm)))), (4, .one (.p (.int .i64 (.ofNat mx)))), (11, .one (.own 0 v 0 o.length)), (12, .one (.p (.int .i64 (.ofNat i))))], ⟨false, v, 1, pc (onesP o), false, 33⟩ :: G⟩ =
      some (.exit 0, ⟨T', ⟨false, v', 1, pc (onesP (o ++ rs)), false, 33⟩ :: G'⟩) ∧ getT T' 11 = some (.one (.own 0 v' 0 (o ++ rs).length)) := by
  intro rest rs h
  induction h with
  | nil =>
    intro i k v o G _ hi ho hk
    obtain ⟨k, rfl⟩ : ∃ k', k = k' + 1 := ⟨k - 1, by omega⟩
    simp only [List.length_nil, Nat.add_zero, List.length_take] at hi
    have : ∃ T' G', loopK E K 0 [0, 1, 2, 3, 4, 11, 12] x33_1 (k + 1) ⟨[(0, .one (.p L)), (1, .one (.p (.int .i64 (.ofNat 2)))), (2, .one (.p (.int .i64 (.ofNat d)))), (3, .one (.p (.int .i64 (.ofNat tm)))), (4, .one (.p (.int .i64 (.ofNat mx)))), (11, .one (.own 0 v 0 o.length)), (12, .one (.p (.int .i64 (.ofNat i))))], ⟨false, v, 1, pc (onesP o), false, 33⟩ :: G⟩ =
      some (.exit 0, ⟨T', ⟨false, v, 1, pc (onesP o), false, 33⟩ :: G'⟩) ∧ getT T' 11 = some (.one (.own 0 v 0 o.length)) := by
      by_cases hlt : i < all.length
      · have h2 : ¬ i < mx := by omega
        apply ex2
        · rw [loopK]
          simp only [EVS, EVN, reduceIte, Nat.reduceEqDiff, x33_1, sL.len, hlt, h2]
          rfl
        · simp only [EVS, reduceIte, Nat.reduceEqDiff]
      · apply ex2
        · rw [loopK]
          simp only [EVS, EVN, reduceIte, Nat.reduceEqDiff, x33_1, sL.len, hlt]
          rfl
        · simp only [EVS, reduceIte, Nat.reduceEqDiff]
    obtain ⟨T', G', g1, g2⟩ := this
    exact ⟨T', G', v, by simpa using g1, by simpa using g2⟩
  | @cons R r ls rs h1 h ih =>
    intro i k v o G hdr hi ho hk
    obtain ⟨k, rfl⟩ : ∃ k', k = k' + 1 := ⟨k - 1, by omega⟩
    simp only [List.length_cons, List.length_take] at hi hk
    have hlt : i < all.length := by omega
    have hlt2 : i < mx := by omega
    obtain ⟨gq, dq⟩ := drop_cons_get hdr
    have grow : all[i]? = some [R] := by rw [List.getElem?_take, if_pos hlt2] at gq; exact gq
    have hidx := fun (hh : HF) (kd : IntKind) => sL.idx (h := hh) (k := kd) (sz := 1) grow rfl
    have f1 : wrapF .i64 (.ofNat (i + 1)) = .ofNat (i + 1) := wrap_i64 (by omega)
    have f2 : (o.length + 1) * 24 ≤ lim := by unfold lim; omega
    have f3 : o.length + 1 ≤ 9223372036854775807 := by omega
    obtain ⟨T', G', v', g1, g2⟩ := ih (i + 1) k (v + 1) (o ++ [r]) (G ++ [⟨false, 0, 1, [[.p r]], false, 33⟩]) dq (by rw [List.length_take]; omega) (by simp; omega) (by omega)
    refine ⟨T', G', v', ?_, by simpa using g2⟩
    rw [List.append_assoc, List.singleton_append, List.length_append, List.length_singleton] at g1
    rw [loopK]
    simp only [EVS, EVH, EVG, EVN, EVF, reduceIte, Nat.reduceEqDiff, Nat.reduceLT, x33_1, sL.len, hlt, hlt2, hidx, hmd, MDS, h1, f1, f2, f3, pc_len, onesP_len, pc_snoc1]
    exact g1

theorem listR_evt {B : Base} (hB : Std B) {d tm : Nat} (hd : d < 100) (htm : tm < 1000) : ∀ {ls : List (List PL)}, (∀ c ∈ ls, ∃ R, c = [R] ∧ RawPoly R) → ∃ rs tss, (Evt B fun E _ => ListR E d tm ls rs) ∧ PqL rs tss (tm * 3) d tm ∧ rs.length = ls.length
  | [], _ => ⟨[], [], Evt.of fun _ _ => .nil, .nil, rfl⟩
  | c :: ls, h => by
    obtain ⟨R, rfl, hR⟩ := h c (List.mem_cons_self ..)
    obtain ⟨r, ts, g1, g2⟩ := made_ret hB hR hd htm
    obtain ⟨rs, tss, g3, g4, g5⟩ := listR_evt hB hd htm fun c hc => h c (List.mem_cons_of_mem _ hc)
    exact ⟨r :: rs, ts :: tss, (g3.and g1.evt).mono fun E K ⟨e1, e2⟩ => .cons e2 e1, .cons g2 g4, by simp [g5]⟩

/-- A raw list of polynomials. -/
def RawList (L : PL) : Prop := ∃ ls, Sl L ls ∧ ∀ c ∈ ls, ∃ R, c = [R] ∧ RawPoly R

set_option maxRecDepth 100000 in
set_option maxHeartbeats 4000000 in
theorem list_ret {B : Base} (hB : Std B) {L : PL} (hL : RawList L) {d tm mx : Nat} (hd : d < 100) (htm : tm < 1000) (hmx : mx < 1000) :
    ∃ rs tss, Ret B 33 [.one L, .one (.int .i64 (.ofNat 2)), .one (.int .i64 (.ofNat d)), .one (.int .i64 (.ofNat tm)), .one (.int .i64 (.ofNat mx))] (.one (.lst (onesP rs))) ∧ PqL rs tss (tm * 3) d tm ∧ rs.length ≤ mx := by
  obtain ⟨ls, sL, hls⟩ := hL
  obtain ⟨rs, tss, g1, g2, g3⟩ := listR_evt hB hd htm (ls := ls.take mx) fun c hc => hls c (List.mem_of_mem_take hc)
  have hlen : (ls.take mx).length ≤ mx := by rw [List.length_take]; omega
  refine ⟨rs, tss, Ret.of (hB.tab _ _ rfl) ((g1.and (hB.evt.and (Evt.ge (mx + 1)))).mono fun E K ⟨e1, hmd, hK⟩ => ?_), g2, by omega⟩
  obtain ⟨T', G', v', k1, k2⟩ := list_go (K := K) hmd sL hmx (ls.take mx) rs e1 0 K 0 [] [] (by simp) (by simp) rfl (by omega)
  have ht : (pc (onesP rs)).take rs.length = pc (onesP rs) := pc_take (onesP rs) (by rw [onesP_len]; exact Nat.le_refl _)
  have hf := fun h => frz_pc 5 h (onesP rs)
  have hp0 : pc (onesP []) = [] := rfl
  rw [hp0] at k1
  simp only [List.nil_append, List.length_nil] at k1 k2
  simp only [EVS, EVN, reduceIte, Nat.reduceEqDiff, Nat.reduceLeDiff, Nat.reduceAdd, x33, k1, k2, ht, hf, pc_len, onesP_len, Nat.le_refl]

theorem polys_ret {B : Base} (hB : Std B) {L : PL} (hL : RawList L) (k : PL) :
    ∃ rs tss, Ret B 8 [.agg [L, k]] (.one (.lst (onesP rs))) ∧ PqL rs tss 9 2 3 ∧ rs.length ≤ 3 := by
  obtain ⟨rs, tss, g1, g2, g3⟩ := list_ret hB hL (d := 2) (tm := 3) (mx := 3) (by omega) (by omega) (by omega)
  refine ⟨rs, tss, Ret.of (hB.tab _ _ rfl) ((g1.evt.and hB.evt).mono fun E K ⟨e1, hmd⟩ => ?_), g2, g3⟩
  simp only [EVS, EVN, reduceIte, Nat.reduceEqDiff, Nat.reduceLeDiff, Nat.reduceAdd, Nat.zero_le, x8, hmd, MDS, e1]

end Go.Proofs.YtidginchkjhobaaGreat
