/- Monomials: products. -/
import Derived.Test.YtidginchkjhobaaGreatRef
import Derived.Test.YtidginchkjhobaaGreatPoly
namespace Go.Proofs.YtidginchkjhobaaGreat
open Go.Ev Go.Num

/-- A monomial in its cells. -/
def mo (m : List Nat) : List PL := m.map fun e => .int .i64 (.ofNat e)

theorem list8 {m : List Nat} (h : m.length = 8) : ∃ a b c d e f g i, m = [a, b, c, d, e, f, g, i] := by
  match m, h with
  | [a, b, c, d, e, f, g, i], _ => exact ⟨a, b, c, d, e, f, g, i, rfl⟩

theorem w1 : wrapF .i64 (.ofNat 1) = .ofNat 1 ∧ wrapF .i64 (.ofNat 2) = .ofNat 2 ∧ wrapF .i64 (.ofNat 3) = .ofNat 3 ∧ wrapF .i64 (.ofNat 4) = .ofNat 4 ∧ wrapF .i64 (.ofNat 5) = .ofNat 5 ∧ wrapF .i64 (.ofNat 6) = .ofNat 6 ∧ wrapF .i64 (.ofNat 7) = .ofNat 7 ∧ wrapF .i64 (.ofNat 8) = .ofNat 8 := ⟨rfl, rfl, rfl, rfl, rfl, rfl, rfl, rfl⟩

/-- All exponents are in their range. -/
def MoOk (m : List Nat) : Prop := m.length = 8 ∧ ∀ e ∈ m, e ≤ 65535

set_option maxRecDepth 100000 in
set_option maxHeartbeats 4000000 in
theorem valid_ret {B : Base} (hB : Std B) {m : List Nat} (hm : MoOk m) : Ret B 164 [.agg (mo m)] (.one (.bool true)) := by
  obtain ⟨h8, hle⟩ := hm
  obtain ⟨a, b, c, d, e, f, g, i, rfl⟩ := list8 h8
  simp only [List.mem_cons, List.not_mem_nil, or_false, forall_eq_or_imp, forall_eq] at hle
  obtain ⟨ha, hb, hc, hd, he, hf, hg, hi⟩ := hle
  refine Ret.of (hB.tab _ _ rfl) ((Evt.ge 9).mono fun E K hK => ?_)
  obtain ⟨K', rfl⟩ : ∃ K', K = K' + 9 := ⟨K - 9, by omega⟩
  have q : ∀ {x : Nat}, x ≤ 65535 → ¬ 65535 < x := fun h => by omega
  simp (decide := true) only [EVS, EVN, reduceIte, Nat.reduceAdd, Nat.reduceMul, x164, x164_1, loopK, mo, opIndexV, w1, Nat.not_lt_zero, q ha, q hb, q hc, q hd, q he, q hf, q hg, q hi, Res.pure]

set_option maxRecDepth 100000 in
set_option maxHeartbeats 4000000 in
theorem rvalid_ret {B : Base} (hB : Std B) {m : List Nat} (hm : MoOk m) : Ret B 122 [.agg (mo m)] (.one (.bool true)) := by
  obtain ⟨h8, hle⟩ := hm
  obtain ⟨a, b, c, d, e, f, g, i, rfl⟩ := list8 h8
  simp only [List.mem_cons, List.not_mem_nil, or_false, forall_eq_or_imp, forall_eq] at hle
  obtain ⟨ha, hb, hc, hd, he, hf, hg, hi⟩ := hle
  refine Ret.of (hB.tab _ _ rfl) ((Evt.ge 9).mono fun E K hK => ?_)
  obtain ⟨K', rfl⟩ : ∃ K', K = K' + 9 := ⟨K - 9, by omega⟩
  have q : ∀ {x : Nat}, x ≤ 65535 → ¬ 65535 < x := fun h => by omega
  simp (decide := true) only [EVS, EVN, reduceIte, Nat.reduceAdd, Nat.reduceMul, x122, x122_1, loopK, mo, w1, Nat.not_lt_zero, q ha, q hb, q hc, q hd, q he, q hf, q hg, q hi]

set_option maxRecDepth 100000 in
set_option maxHeartbeats 8000000 in
theorem monoMul_ret {B : Base} (hB : Std B) {m n : List Nat} (hm : MoOk m) (hn : MoOk n) (hs : MoOk (addM m n)) : Ret B 130 [.agg (mo m), .agg (mo n)] (.tup [.agg (mo (addM m n)), .one (.int .i64 (.ofNat 0))]) := by
  have hv := valid_ret hB hs
  obtain ⟨m8, hm2⟩ := hm
  obtain ⟨n8, hn2⟩ := hn
  obtain ⟨a, b, c, d, e, f, g, i, rfl⟩ := list8 m8
  obtain ⟨a', b', c', d', e', f', g', i', rfl⟩ := list8 n8
  simp only [List.mem_cons, List.not_mem_nil, or_false, forall_eq_or_imp, forall_eq] at hm2 hn2
  obtain ⟨ha, hb, hc, hd, he, hf, hg, hi⟩ := hm2
  obtain ⟨ka, kb, kc, kd, ke, kf, kg, ki⟩ := hn2
  refine Ret.of (hB.tab _ _ rfl) ((hv.evt.and (hB.evt.and (Evt.ge 9))).mono fun E K ⟨e1, hm, hK⟩ => ?_)
  obtain ⟨K', rfl⟩ : ∃ K', K = K' + 9 := ⟨K - 9, by omega⟩
  have q : ∀ {x y : Nat}, x ≤ 65535 → y ≤ 65535 → wrapF .i64 (.ofNat (x + y)) = .ofNat (x + y) := fun h k => wrap_i64 (by omega)
  simp only [addM, List.zipWith_cons_cons, List.zipWith_nil_right, mo, List.map_cons, List.map_nil] at e1 ⊢
  simp (decide := true) only [EVS, EVN, reduceIte, Nat.reduceAdd, Nat.reduceMul, x130, x130_1, loopK, w1, q ha ka, q hb kb, q hc kc, q hd kd, q he ke, q hf kf, q hg kg, q hi ki, hm, MDS, e1]

set_option maxRecDepth 100000 in
set_option maxHeartbeats 8000000 in
theorem rmonoMul_ret {B : Base} (hB : Std B) {m n : List Nat} (hm : MoOk m) (hn : MoOk n) (hs : MoOk (addM m n)) : Ret B 90 [.agg (mo m), .agg (mo n)] (.tup [.agg (mo (addM m n)), .one (.int .i64 (.ofNat 0))]) := by
  have hv := rvalid_ret hB hs
  obtain ⟨m8, hm2⟩ := hm
  obtain ⟨n8, hn2⟩ := hn
  obtain ⟨a, b, c, d, e, f, g, i, rfl⟩ := list8 m8
  obtain ⟨a', b', c', d', e', f', g', i', rfl⟩ := list8 n8
  simp only [List.mem_cons, List.not_mem_nil, or_false, forall_eq_or_imp, forall_eq] at hm2 hn2
  obtain ⟨ha, hb, hc, hd, he, hf, hg, hi⟩ := hm2
  obtain ⟨ka, kb, kc, kd, ke, kf, kg, ki⟩ := hn2
  refine Ret.of (hB.tab _ _ rfl) ((hv.evt.and (hB.evt.and (Evt.ge 9))).mono fun E K ⟨e1, hm, hK⟩ => ?_)
  obtain ⟨K', rfl⟩ : ∃ K', K = K' + 9 := ⟨K - 9, by omega⟩
  have q : ∀ {x y : Nat}, x ≤ 65535 → y ≤ 65535 → wrapF .i64 (.ofNat (x + y)) = .ofNat (x + y) := fun h k => wrap_i64 (by omega)
  simp only [addM, List.zipWith_cons_cons, List.zipWith_nil_right, mo, List.map_cons, List.map_nil] at e1 ⊢
  simp (decide := true) only [EVS, EVN, reduceIte, Nat.reduceAdd, Nat.reduceMul, x90, x90_1, loopK, w1, q ha ka, q hb kb, q hc kc, q hd kd, q he ke, q hf kf, q hg kg, q hi ki, hm, MDS, e1]

end Go.Proofs.YtidginchkjhobaaGreat

namespace Go.Proofs.YtidginchkjhobaaGreat
open Go.Ev Go.Num

def moD (m : List Nat) : List DL := m.map fun e => .p (.int .i64 (.ofNat e))
theorem mo_D (m : List Nat) : (mo m).map DL.p = moD m := by simp [mo, moD]
theorem moD_len (m : List Nat) : (moD m).length = m.length := by simp [moD]
theorem mo_len (m : List Nat) : (mo m).length = m.length := by simp [mo]
theorem moD_drop {m : List Nat} {i e : Nat} (h : m[i]? = some e) : (moD m).drop i = .p (.int .i64 (.ofNat e)) :: moD (m.drop (i + 1)) := by
  obtain ⟨h1, rfl⟩ := List.getElem?_eq_some_iff.1 h
  rw [moD, ← List.map_drop, List.drop_eq_getElem_cons h1]; rfl
theorem drop_get {m : List Nat} {i e : Nat} (h : m[i]? = some e) : m.drop i = e :: m.drop (i + 1) := by
  obtain ⟨h1, rfl⟩ := List.getElem?_eq_some_iff.1 h
  exact List.drop_eq_getElem_cons h1

theorem rcmp_loop {E : Oracle} {K : Nat} {m n : List Nat} (hm : m.length = 8) (hn : n.length = 8) (t : Nat) : ∀ (d i k : Nat), i + d = 8 → d < k →
    ∃ ex T', loopK E K 0 [2, 3, 5] x35_1 k ⟨[(2, .one (.ptr 0 0 0 0)), (3, .one (.ptr 1 0 0 0)), (5, .one (.p (.int .i64 (.ofNat i))))], [⟨false, 0, 8, [moD m], false, t⟩, ⟨false, 0, 8, [moD n], false, t⟩]⟩ = some (ex, ⟨T', [⟨false, 0, 8, [moD m], false, t⟩, ⟨false, 0, 8, [moD n], false, t⟩]⟩) ∧
      ((ex = .exit 0 ∧ cmpL (m.drop i) (n.drop i) = .ofNat 0) ∨ (ex = .ret ∧ getT T' 4 = some (.one (.p (.int .i64 (cmpL (m.drop i) (n.drop i)))))))
  | _, _, 0, _, h => by omega
  | 0, i, k + 1, hi, _ => by
    obtain rfl : i = 8 := by omega
    refine ⟨.exit 0, ?_⟩
    apply ex1
    · rw [loopK]
      simp only [EVS, EVN, reduceIte, Nat.reduceEqDiff, x35_1, Nat.lt_irrefl]
      rfl
    · refine .inl ⟨rfl, ?_⟩
      rw [List.drop_of_length_le (by omega)]; rfl
  | d + 1, i, k + 1, hi, hk => by
    obtain ⟨e, he⟩ : ∃ e, m[i]? = some e := ⟨_, List.getElem?_eq_getElem (by omega)⟩
    obtain ⟨f, hf⟩ : ∃ f, n[i]? = some f := ⟨_, List.getElem?_eq_getElem (by omega)⟩
    have h8 : i < 8 := by omega
    have h8' : i ≤ 8 := by omega
    have f1 : wrapF .i64 (.ofNat (i + 1)) = .ofNat (i + 1) := wrap_i64 (by omega)
    rw [drop_get he, drop_get hf]
    simp only [cmpL]
    by_cases h1 : e < f
    · rw [if_pos h1]
      refine ⟨.ret, ?_⟩
      apply ex1
      · rw [loopK]
        simp only [EVS, EVN, reduceIte, Nat.reduceEqDiff, Nat.mul_one, x35_1, h8, h8', moD_drop he, moD_drop hf, moD_len, hm, hn, h1]
        rfl
      · exact .inr ⟨rfl, by simp only [EVS, reduceIte, Nat.reduceEqDiff]⟩
    · rw [if_neg h1]
      by_cases h2 : f < e
      · rw [if_pos h2]
        refine ⟨.ret, ?_⟩
        apply ex1
        · rw [loopK]
          simp only [EVS, EVN, reduceIte, Nat.reduceEqDiff, Nat.mul_one, x35_1, h8, h8', moD_drop he, moD_drop hf, moD_len, hm, hn, h1, h2]
          rfl
        · exact .inr ⟨rfl, by simp only [EVS, reduceIte, Nat.reduceEqDiff]⟩
      · rw [if_neg h2]
        obtain ⟨ex, T', g1, g2⟩ := rcmp_loop hm hn t d (i + 1) k (by omega) (by omega)
        refine ⟨ex, T', ?_, g2⟩
        rw [loopK]
        simp only [EVS, EVN, reduceIte, Nat.reduceEqDiff, Nat.mul_one, x35_1, h8, h8', moD_drop he, moD_drop hf, moD_len, hm, hn, h1, h2, f1]
        exact g1

theorem rmonoCmp_ret {B : Base} (hB : Std B) {m n : List Nat} (hm : m.length = 8) (hn : n.length = 8) : Ret B 35 [.agg (mo m), .agg (mo n)] (.one (.int .i64 (cmpL m n))) := by
  refine Ret.of (hB.tab _ _ rfl) ((Evt.ge 9).mono fun E K hK => ?_)
  obtain ⟨ex, T', g1, g2⟩ := rcmp_loop (E := E) (K := K) hm hn 73 8 0 K rfl (by omega)
  rw [List.drop_zero, List.drop_zero] at g2
  rcases g2 with ⟨rfl, g2⟩ | ⟨rfl, g2⟩
  · rw [g2]
    simp only [EVS, EVN, reduceIte, Nat.reduceEqDiff, Nat.reduceLeDiff, x35, mo_D, moD_len, hm, hn, g1]
  · simp only [EVS, EVN, reduceIte, Nat.reduceEqDiff, Nat.reduceLeDiff, x35, mo_D, moD_len, hm, hn, g1, g2]

theorem eqInts_mo : ∀ (m n : List Nat), m.length = n.length → eqInts .i64 (moD m) (moD n) = some (decide (m = n))
  | [], [], _ => rfl
  | [], _ :: _, h => by simp at h
  | _ :: _, [], h => by simp at h
  | a :: m, b :: n, h => by
    have ih := eqInts_mo m n (by simpa using h)
    simp only [moD] at ih
    simp only [moD, List.map_cons, eqInts, keq, kidx, Nat.beq_refl, Bool.and_self, cond_true, ih, eqF_nn, List.cons.injEq, Option.some.injEq]
    by_cases h1 : a = b <;> by_cases h2 : m = n <;> simp [h1, h2]

/-- Two different monomials part somewhere. -/
theorem first_diff : ∀ {m n : List Nat}, m.length = n.length → m ≠ n → ∃ p e f : Nat, m[p]? = some e ∧ n[p]? = some f ∧ e ≠ f ∧ (∀ j, j < p → m[j]? = n[j]?) ∧ cmpL m n = if e < f then .negSucc 0 else .ofNat 1
  | [], [], _, h => absurd rfl h
  | [], _ :: _, h, _ => by simp at h
  | _ :: _, [], h, _ => by simp at h
  | a :: m, b :: n, h, hne => by
    by_cases e : a = b
    · subst e
      obtain ⟨p, x, y, h1, h2, h3, h4, h5⟩ := first_diff (m := m) (n := n) (by simpa using h) (fun q => hne (by rw [q]))
      refine ⟨p + 1, x, y, by simpa using h1, by simpa using h2, h3, fun j hj => ?_, ?_⟩
      · cases j with
        | zero => rfl
        | succ j => simpa using h4 j (by omega)
      · simp only [cmpL, Nat.lt_irrefl, if_false]; exact h5
    · refine ⟨0, a, b, rfl, rfl, e, fun j hj => by omega, ?_⟩
      simp only [cmpL]
      split
      · rfl
      · rw [if_pos (by omega)]

theorem cmp_loop {E : Oracle} {K : Nat} {m n : List Nat} (hm : m.length = 8) (hn : n.length = 8) (t : Nat) {p e f : Nat} (hp : m[p]? = some e) (hq : n[p]? = some f) (hne : e ≠ f) (hj : ∀ j, j < p → m[j]? = n[j]?) : ∀ (d i k : Nat), i + d = p → d < k →
    ∃ T', loopK E K 0 [2, 3, 5] x151_1 k ⟨[(2, .one (.ptr 0 0 0 0)), (3, .one (.ptr 1 0 0 0)), (5, .one (.p (.int .i64 (.ofNat i))))], [⟨false, 0, 8, [moD m], false, t⟩, ⟨false, 0, 8, [moD n], false, t⟩]⟩ = some (.exit 0, ⟨T', [⟨false, 0, 8, [moD m], false, t⟩, ⟨false, 0, 8, [moD n], false, t⟩]⟩) ∧
      (getT T' 2 = some (.one (.ptr 0 0 0 0)) ∧ getT T' 3 = some (.one (.ptr 1 0 0 0)) ∧ getT T' 5 = some (.one (.p (.int .i64 (.ofNat p)))))
  | _, _, 0, _, h => by omega
  | 0, i, k + 1, hi, _ => by
    obtain rfl : i = p := by omega
    have hi8 : i < 8 := by rw [← hm]; exact (List.getElem?_eq_some_iff.1 hp).1
    have h8' : i ≤ 8 := by omega
    apply ex1
    · rw [loopK]
      simp only [EVS, EVN, reduceIte, Nat.reduceEqDiff, Nat.mul_one, x151_1, hi8, h8', moD_drop hp, moD_drop hq, moD_len, hm, hn, hne]
      rfl
    · simp only [EVS, reduceIte, Nat.reduceEqDiff, and_self]
  | d + 1, i, k + 1, hi, hk => by
    have hp8 : p < 8 := by rw [← hm]; exact (List.getElem?_eq_some_iff.1 hp).1
    obtain ⟨x, hx⟩ : ∃ x, m[i]? = some x := ⟨_, List.getElem?_eq_getElem (by omega)⟩
    have hy : n[i]? = some x := by rw [← hj i (by omega)]; exact hx
    have h8 : i < 8 := by omega
    have h8' : i ≤ 8 := by omega
    have f1 : wrapF .i64 (.ofNat (i + 1)) = .ofNat (i + 1) := wrap_i64 (by omega)
    obtain ⟨T', g1, g2⟩ := cmp_loop (E := E) (K := K) hm hn t hp hq hne hj d (i + 1) k (by omega) (by omega)
    refine ⟨T', ?_, g2⟩
    rw [loopK]
    simp only [EVS, EVN, reduceIte, Nat.reduceEqDiff, Nat.mul_one, x151_1, h8, h8', moD_drop hx, moD_drop hy, moD_len, hm, hn, f1]
    exact g1

theorem monoCmp_ret {B : Base} (hB : Std B) {m n : List Nat} (hm : m.length = 8) (hn : n.length = 8) : Ret B 151 [.agg (mo m), .agg (mo n)] (.one (.int .i64 (cmpL m n))) := by
  refine Ret.of (hB.tab _ _ rfl) ((Evt.ge 9).mono fun E K hK => ?_)
  have hq : opBinAgg false .i64 8 [.agg (moD m), .agg (moD n)] = some ⟨.one (.p (.bool (decide (m = n)))), [], [], []⟩ := by
    simp only [opBinAgg, moD_len, hm, Nat.beq_refl, cond_true, eqInts_mo m n (by omega), Res.pure, Bool.bne_false]
  have ht1 : (moD m).take 8 = moD m := List.take_of_length_le (by rw [moD_len]; omega)
  have ht2 : (moD n).take 8 = moD n := List.take_of_length_le (by rw [moD_len]; omega)
  by_cases h : m = n
  · rw [h, cmpL_self]
    rw [h] at hq
    simp only [EVS, EVN, reduceIte, Nat.reduceEqDiff, Nat.reduceLeDiff, x151, mo_D, moD_len, hn, ht2, hq]
  · obtain ⟨p, e, f, h1, h2, h3, h4, h5⟩ := first_diff (by omega) h
    have hp8 : p < 8 := by rw [← hm]; exact (List.getElem?_eq_some_iff.1 h1).1
    have h8' : p ≤ 8 := by omega
    obtain ⟨T', g1, g2, g3, g4⟩ := cmp_loop (E := E) (K := K) hm hn 73 h1 h2 h3 h4 p 0 K (by omega) (by omega)
    rw [h5]
    by_cases lt : e < f
    · simp only [EVS, EVN, reduceIte, Nat.reduceEqDiff, Nat.reduceLeDiff, Nat.mul_one, x151, mo_D, moD_len, hm, hn, ht1, ht2, hq, h, g1, g2, g3, g4, hp8, h8', moD_drop h1, moD_drop h2, lt]
    · simp only [EVS, EVN, reduceIte, Nat.reduceEqDiff, Nat.reduceLeDiff, Nat.mul_one, x151, mo_D, moD_len, hm, hn, ht1, ht2, hq, h, g1, g2, g3, g4, hp8, h8', moD_drop h1, moD_drop h2, lt]

end Go.Proofs.YtidginchkjhobaaGreat
