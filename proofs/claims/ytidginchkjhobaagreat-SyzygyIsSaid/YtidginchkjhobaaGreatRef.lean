/- Package rational on whole numbers. -/
import Derived.Test.YtidginchkjhobaaGreatInt
namespace Go.Proofs.YtidginchkjhobaaGreat
open Go.Ev Go.Num

/-- The product of two numbers, as package rational makes it. -/
theorem product_ret {B : Base} (hB : Std B) {c d : List PL} {x y : Int} (hc : IsI c x) (hd : IsI d y) (hx : Sm x) (hy : Sm y) : ∃ e, Ret B 117 [.one (.lst [c, d])] (.agg e) ∧ IsI e (x * y) := by
  obtain ⟨u, h1, hu⟩ := of_ret hB (m := 1) (by decide)
  have o1 := isOne_ret hB hu
  have o2 := isOne_ret hB hc
  have o3 := isOne_ret hB hd
  obtain ⟨u1, u2, eu⟩ := hu.len
  obtain ⟨c1, c2, ec⟩ := hc.len
  obtain ⟨d1, d2, ed⟩ := hd.len
  subst eu ec ed
  rw [decide_eq_true (by rfl : ((1 : Nat) : Int) = 1)] at o1
  by_cases hx1 : x = 1
  · rw [decide_eq_true hx1] at o2
    by_cases hy1 : y = 1
    · rw [decide_eq_true hy1] at o3
      refine ⟨_, Ret.of (hB.tab _ _ rfl) ((h1.evt.and (o1.evt.and (o2.evt.and (o3.evt.and (hB.evt.and (Evt.ge 3)))))).mono fun E K ⟨e1, e2, e3, e4, hm, hK⟩ => ?_), by rw [hx1, hy1]; exact hu⟩
      obtain ⟨K', rfl⟩ : ∃ K', K = K' + 3 := ⟨K - 3, by omega⟩
      have f1 : wrapF .i64 (.ofNat 1) = .ofNat 1 := rfl
      have f2 : wrapF .i64 (.ofNat 2) = .ofNat 2 := rfl
      simp (decide := true) only [EVS, EVN, reduceIte, Nat.reduceAdd, x117, x117_1, loopK, hm, MDS, e1, e3, e4, f1, f2]
    · rw [decide_eq_false hy1] at o3
      refine ⟨_, Ret.of (hB.tab _ _ rfl) ((h1.evt.and (o1.evt.and (o2.evt.and (o3.evt.and (hB.evt.and (Evt.ge 3)))))).mono fun E K ⟨e1, e2, e3, e4, hm, hK⟩ => ?_), by rw [hx1, Int.one_mul]; exact hd⟩
      obtain ⟨K', rfl⟩ : ∃ K', K = K' + 3 := ⟨K - 3, by omega⟩
      have f1 : wrapF .i64 (.ofNat 1) = .ofNat 1 := rfl
      have f2 : wrapF .i64 (.ofNat 2) = .ofNat 2 := rfl
      simp (decide := true) only [EVS, EVN, reduceIte, Nat.reduceAdd, x117, x117_1, loopK, hm, MDS, e1, e2, e3, e4, f1, f2]
  · have o2' := o2
    rw [decide_eq_false hx1] at o2
    by_cases hy1 : y = 1
    · rw [decide_eq_true hy1] at o3
      refine ⟨_, Ret.of (hB.tab _ _ rfl) ((h1.evt.and (o1.evt.and (o2.evt.and (o3.evt.and (hB.evt.and (Evt.ge 3)))))).mono fun E K ⟨e1, e2, e3, e4, hm, hK⟩ => ?_), by rw [hy1, Int.mul_one]; exact hc⟩
      obtain ⟨K', rfl⟩ : ∃ K', K = K' + 3 := ⟨K - 3, by omega⟩
      have f1 : wrapF .i64 (.ofNat 1) = .ofNat 1 := rfl
      have f2 : wrapF .i64 (.ofNat 2) = .ofNat 2 := rfl
      simp (decide := true) only [EVS, EVN, reduceIte, Nat.reduceAdd, x117, x117_1, loopK, hm, MDS, e1, e2, e3, e4, f1, f2]
    · rw [decide_eq_false hy1] at o3
      obtain ⟨e, h2, he⟩ := mul_ret hB hc hd hx hy
      obtain ⟨e1, e2, ee⟩ := he.len
      subst ee
      refine ⟨_, Ret.of (hB.tab _ _ rfl) ((h1.evt.and (o1.evt.and (o2.evt.and (o3.evt.and (h2.evt.and (hB.evt.and (Evt.ge 3))))))).mono fun E K ⟨e1, e2, e3, e4, e5, hm, hK⟩ => ?_), he⟩
      obtain ⟨K', rfl⟩ : ∃ K', K = K' + 3 := ⟨K - 3, by omega⟩
      have f1 : wrapF .i64 (.ofNat 1) = .ofNat 1 := rfl
      have f2 : wrapF .i64 (.ofNat 2) = .ofNat 2 := rfl
      simp (decide := true) only [EVS, EVN, reduceIte, Nat.reduceAdd, x117, x117_1, loopK, hm, MDS, e1, e2, e3, e4, e5, f1, f2]

/-- A whole number, as a rational one. -/
def IsZ (c : List PL) (z : Int) : Prop := ∃ n m d e, c = [.bool n, m, .bool d, e] ∧ IsI [.bool n, m] z ∧ IsI [.bool d, e] 1

theorem lowest_one {B : Base} (hB : Std B) {c d : List PL} {x : Int} (hc : IsI c x) (hd : IsI d 1) : Ret B 116 [.agg c, .agg d] (.agg (c ++ d)) := by
  have o1 := isOne_ret hB hd
  obtain ⟨c1, c2, ec⟩ := hc.len
  obtain ⟨d1, d2, ed⟩ := hd.len
  subst ec ed
  rw [decide_eq_true rfl] at o1
  refine Ret.of (hB.tab _ _ rfl) ((o1.evt.and hB.evt).mono fun E K ⟨e1, hm⟩ => ?_)
  simp (decide := true) only [EVS, EVN, reduceIte, Nat.reduceAdd, x116, hm, MDS, e1]

theorem sm_one : Sm 1 := by unfold Sm; rw [words_small (by decide) (by decide)]; simp

theorem ratAdd_z {B : Base} (hB : Std B) {c d : List PL} {x y : Int} (hc : IsZ c x) (hd : IsZ d y) (hx : Sm x) (hy : Sm y) : ∃ e, Ret B 157 [.agg c, .agg d] (.agg e) ∧ IsZ e (x + y) := by
  obtain ⟨n1, m1, n2, m2, rfl, hc1, hc2⟩ := hc
  obtain ⟨n3, m3, n4, m4, rfl, hd1, hd2⟩ := hd
  obtain ⟨p, h1, hp⟩ := product_ret hB hc1 hd2 hx sm_one
  obtain ⟨q, h2, hq⟩ := product_ret hB hd1 hc2 hy sm_one
  obtain ⟨r, h3, hr⟩ := product_ret hB hc2 hd2 sm_one sm_one
  rw [Int.mul_one] at hp hq hr
  obtain ⟨s, h4, hs⟩ := add_ret hB hp hq hx hy
  have h5 := lowest_one hB hs hr
  obtain ⟨p1, p2, ep⟩ := hp.len
  obtain ⟨q1, q2, eq⟩ := hq.len
  obtain ⟨r1, r2, er⟩ := hr.len
  obtain ⟨s1, s2, es⟩ := hs.len
  subst ep eq er es
  refine ⟨_, Ret.of (hB.tab _ _ rfl) ((h1.evt.and (h2.evt.and (h3.evt.and (h4.evt.and (h5.evt.and hB.evt))))).mono fun E K ⟨e1, e2, e3, e4, e5, hm⟩ => ?_), ⟨_, _, _, _, rfl, hs, hr⟩⟩
  simp only [EVS] at e5
  cases a1 : p2.scalar <;> cases a2 : q2.scalar <;> cases a3 : r2.scalar <;>
    simp (decide := true) only [EVS, EVN, reduceIte, Nat.reduceAdd, x157, hm, MDS, e1, e2, e3, e4, e5, a1, a2, a3]

theorem ratMul_z {B : Base} (hB : Std B) {c d : List PL} {x y : Int} (hc : IsZ c x) (hd : IsZ d y) (hx : Sm x) (hy : Sm y) : ∃ e, Ret B 64 [.agg c, .agg d] (.agg e) ∧ IsZ e (x * y) := by
  obtain ⟨n1, m1, n2, m2, rfl, hc1, hc2⟩ := hc
  obtain ⟨n3, m3, n4, m4, rfl, hd1, hd2⟩ := hd
  have h1 := lowest_one hB hc1 hd2
  have h2 := lowest_one hB hd1 hc2
  obtain ⟨p, h3, hp⟩ := product_ret hB hc1 hd1 hx hy
  obtain ⟨q, h4, hq⟩ := product_ret hB hd2 hc2 sm_one sm_one
  rw [Int.mul_one] at hq
  obtain ⟨p1, p2, ep⟩ := hp.len
  obtain ⟨q1, q2, eq⟩ := hq.len
  subst ep eq
  refine ⟨_, Ret.of (hB.tab _ _ rfl) ((h1.evt.and (h2.evt.and (h3.evt.and (h4.evt.and hB.evt)))).mono fun E K ⟨e1, e2, e3, e4, hm⟩ => ?_), ⟨_, _, _, _, rfl, hp, hq⟩⟩
  simp only [EVS] at e1 e2
  cases a1 : p2.scalar <;> cases a2 : q2.scalar <;>
    simp (decide := true) only [EVS, EVN, reduceIte, Nat.reduceAdd, x64, hm, MDS, e1, e2, e3, e4, a1, a2]

theorem ratNeg_z {B : Base} (hB : Std B) {c : List PL} {x : Int} (hc : IsZ c x) (hx : Sm x) : ∃ e, Ret B 104 [.agg c] (.agg e) ∧ IsZ e (-x) := by
  obtain ⟨n1, m1, n2, m2, rfl, hc1, hc2⟩ := hc
  obtain ⟨p, h1, hp⟩ := neg_ret hB hc1 hx
  obtain ⟨p1, p2, ep⟩ := hp.len
  subst ep
  refine ⟨_, Ret.of (hB.tab _ _ rfl) ((h1.evt.and hB.evt).mono fun E K ⟨e1, hm⟩ => ?_), ⟨_, _, _, _, rfl, hp, hc2⟩⟩
  simp (decide := true) only [EVS, EVN, reduceIte, Nat.reduceAdd, x104, hm, MDS, e1]

theorem ratSign_z {B : Base} (hB : Std B) {c : List PL} {x : Int} (hc : IsZ c x) : Ret B 158 [.agg c] (.one (.int .i64 (sgn x))) := by
  obtain ⟨n1, m1, n2, m2, rfl, hc1, hc2⟩ := hc
  have h1 := sign_ret hB hc1
  refine Ret.of (hB.tab _ _ rfl) ((h1.evt.and hB.evt).mono fun E K ⟨e1, hm⟩ => ?_)
  simp (decide := true) only [EVS, EVN, reduceIte, Nat.reduceAdd, x158, hm, MDS, e1]

end Go.Proofs.YtidginchkjhobaaGreat

namespace Go.Proofs.YtidginchkjhobaaGreat
open Go.Ev Go.Num

theorem rtrim_loop {E : Oracle} {K : Nat} {l : PL} {ws : List Nat} (s : SlW l ws) (hl : ws.length < 9223372036854775808) : ∀ (n k : Nat) (H : List Blk), n < k → n ≤ ws.length →
    ∃ T', loopK E K 0 [0, 3] x139_1 k ⟨[(0, .one (.p l)), (3, .one (.p (.int .i64 (.ofNat n))))], H⟩ = some (.exit 0, ⟨T', H⟩) ∧ getT T' 0 = some (.one (.p l)) ∧ getT T' 3 = some (.one (.p (.int .i64 (.ofNat (trimW (ws.take n)).length))))
  | _, 0, _, h, _ => by omega
  | 0, k + 1, H, _, _ => by
    apply ex1
    · rw [loopK]
      simp only [EVS, EVN, reduceIte, Nat.reduceEqDiff, x139_1, Nat.lt_irrefl]
      rfl
    · simp only [EVS, reduceIte, Nat.reduceEqDiff, trimW, and_self]
  | n + 1, k + 1, H, hk, hn => by
    obtain ⟨w, hw⟩ : ∃ w, ws[n]? = some w := ⟨_, List.getElem?_eq_getElem (by omega)⟩
    have h1 : wrapF .i64 (Int.ofNat (n + 1) - Int.ofNat 1) = Int.ofNat n := sub_i64 (by omega) (by omega)
    rw [take_snoc hw, trim_snoc]
    by_cases h0 : w = 0
    · subst h0
      obtain ⟨T', g1, g2⟩ := rtrim_loop s hl n k H (by omega) (by omega)
      refine ⟨T', ?_, g2⟩
      rw [loopK]
      simp only [EVS, EVN, reduceIte, Nat.reduceEqDiff, x139_1, Nat.zero_lt_succ, h1, s.idx hw]
      exact g1
    · apply ex1
      · rw [loopK]
        simp only [EVS, EVN, reduceIte, Nat.reduceEqDiff, x139_1, Nat.zero_lt_succ, h1, s.idx hw, h0]
        rfl
      · simp only [EVS, reduceIte, Nat.reduceEqDiff, h0, List.length_append, List.length_take, Nat.min_eq_left (show n ≤ ws.length by omega), and_self]

theorem rtrim_lst {B : Base} (hB : Std B) {ws : List Nat} (hl : ws.length < 9223372036854775808) : Ret B 139 [.one (.lst (wsP ws))] (.one (.lst (wsP (trimW ws)))) := by
  have s : SlW (.lst (wsP ws)) ws := .lst
  refine Ret.of (hB.tab _ _ rfl) ((Evt.ge (ws.length + 1)).mono fun E K hK => ?_)
  obtain ⟨T', g1, g2, g3⟩ := rtrim_loop (E := E) (K := K) s hl ws.length K [] (by omega) (Nat.le_refl _)
  rw [List.take_length] at g3
  have h1 : ∀ h, sliceIn 1 h (.p (.lst (wsP ws))) 0 (some (trimW ws).length) = some (.p (.lst (wsP (trimW ws))), []) := by
    intro h
    obtain ⟨r, h1, h2⟩ := s.upto (n := (trimW ws).length) (trim_len ws)
    have := h1 h
    rw [← trim_eq] at h2
    rcases h2 with rfl | ⟨-, rfl⟩
    · exact this
    · simp only [sliceIn] at this
      obtain ⟨-, h3⟩ := cond_some this
      simp at h3
  simp only [EVS, EVN, reduceIte, Nat.reduceEqDiff, Nat.reduceLeDiff, x139, s.len, g1, g2, g3, h1]
theorem rtrim_ret {B : Base} (hB : Std B) {l : PL} {ws : List Nat} (s : SlW l ws) (hl : ws.length < 9223372036854775808) : ∃ r, Ret B 139 [.one l] (.one r) ∧ SlW r (trimW ws) := by
  obtain ⟨r, h1, h2⟩ := s.upto (n := (trimW ws).length) (trim_len ws)
  rw [← trim_eq] at h2
  refine ⟨r, Ret.of (hB.tab _ _ rfl) ((Evt.ge (ws.length + 1)).mono fun E K hK => ?_), h2⟩
  obtain ⟨T', g1, g2, g3⟩ := rtrim_loop (E := E) (K := K) s hl ws.length K [] (by omega) (Nat.le_refl _)
  rw [List.take_length] at g3
  simp only [EVS, EVN, reduceIte, Nat.reduceEqDiff, Nat.reduceLeDiff, x139, s.len, g1, g2, g3, h1]

theorem compared_loop {E : Oracle} {K : Nat} {la lb : PL} {a b : List Nat} (sa : SlW la a) (sb : SlW lb b) (da : Dig a) (db : Dig b) (hab : a.length = b.length) (hl : a.length < 1000000000000) : ∀ (n k : Nat) (H : List Blk), n < k → n ≤ a.length →
    ∃ ex T', loopK E K 0 [0, 1, 5] x127_1 k ⟨[(0, .one (.p la)), (1, .one (.p lb)), (5, .one (.p (.int .i64 (pI n))))], H⟩ = some (ex, ⟨T', H⟩) ∧
      ((val (a.take n) = val (b.take n) ∧ ex = .exit 0) ∨ (val (a.take n) < val (b.take n) ∧ ex = .ret ∧ getT T' 4 = some (.one (.p (.int .i64 (.negSucc 0))))) ∨ (val (b.take n) < val (a.take n) ∧ ex = .ret ∧ getT T' 4 = some (.one (.p (.int .i64 (.ofNat 1))))))
  | _, 0, _, h, _ => by omega
  | 0, k + 1, H, _, _ => by
    refine ⟨.exit 0, ?_⟩
    apply ex1
    · rw [loopK]
      simp only [EVS, EVN, reduceIte, Nat.reduceEqDiff, x127_1, pI]
      rfl
    · exact .inl ⟨rfl, rfl⟩
  | n + 1, k + 1, H, hk, hn => by
    obtain ⟨w, hw⟩ : ∃ w, a[n]? = some w := ⟨_, List.getElem?_eq_getElem (by omega)⟩
    obtain ⟨v, hv⟩ : ∃ v, b[n]? = some v := ⟨_, List.getElem?_eq_getElem (by omega)⟩
    have h1 := pred_i64 (n := n) (by omega)
    have ha : val (a.take n) < 4294967296 ^ n := by
      have := val_lt (ws := a.take n) (fun x hx => da x (List.mem_of_mem_take hx))
      rwa [List.length_take, Nat.min_eq_left (by omega)] at this
    have hb : val (b.take n) < 4294967296 ^ n := by
      have := val_lt (ws := b.take n) (fun x hx => db x (List.mem_of_mem_take hx))
      rwa [List.length_take, Nat.min_eq_left (by omega)] at this
    rw [val_take hw, val_take hv]
    by_cases e : w = v
    · subst e
      obtain ⟨ex, T', g1, g2⟩ := compared_loop sa sb da db hab hl n k H (by omega) (by omega)
      refine ⟨ex, T', ?_, g2.imp (fun h => ⟨by omega, h.2⟩) fun h => h.imp (fun h => ⟨by omega, h.2⟩) fun h => ⟨by omega, h.2⟩⟩
      rw [loopK]
      simp only [EVS, EVN, reduceIte, Nat.reduceEqDiff, x127_1, pI, Nat.zero_le, sa.idx hw, sb.idx hv, h1, Nat.lt_irrefl]
      exact g1
    · by_cases lt : w < v
      · have := Nat.mul_le_mul_right (4294967296 ^ n) (show w + 1 ≤ v from lt)
        rw [Nat.add_mul, Nat.one_mul] at this
        refine ⟨.ret, ?_⟩
        apply ex1
        · rw [loopK]
          simp only [EVS, EVN, reduceIte, Nat.reduceEqDiff, x127_1, pI, Nat.zero_le, sa.idx hw, sb.idx hv, lt]
          rfl
        · exact .inr (.inl ⟨by omega, rfl, by simp only [EVS, reduceIte, Nat.reduceEqDiff]⟩)
      · have := Nat.mul_le_mul_right (4294967296 ^ n) (show v + 1 ≤ w by omega)
        rw [Nat.add_mul, Nat.one_mul] at this
        refine ⟨.ret, ?_⟩
        apply ex1
        · rw [loopK]
          simp only [EVS, EVN, reduceIte, Nat.reduceEqDiff, x127_1, pI, Nat.zero_le, sa.idx hw, sb.idx hv, lt, show v < w by omega]
          rfl
        · exact .inr (.inr ⟨by omega, rfl, by simp only [EVS, reduceIte, Nat.reduceEqDiff]⟩)

theorem compared_ret {B : Base} (hB : Std B) {la lb : PL} {a b : List Nat} (sa : SlW la a) (sb : SlW lb b) (da : Dig a) (db : Dig b) (ca : Canon a) (cb : Canon b) (ha : a.length < 1000000000000) (hb : b.length < 1000000000000) :
    Ret B 127 [.one la, .one lb] (.one (.int .i64 (cmpI (val a) (val b)))) := by
  refine Ret.of (hB.tab _ _ rfl) ((Evt.ge (a.length + 1)).mono fun E K hK => ?_)
  by_cases hab : a.length = b.length
  · obtain ⟨ex, T', g1, g2⟩ := compared_loop (E := E) (K := K) sa sb da db hab ha a.length K [] (by omega) (Nat.le_refl _)
    rw [List.take_length, hab, List.take_length] at g2
    rw [hab] at g1
    have h1 := pred_i64 (n := b.length) (by omega)
    unfold cmpI
    rcases g2 with ⟨e, rfl⟩ | ⟨e, rfl, g2⟩ | ⟨e, rfl, g2⟩
    · simp only [EVS, EVN, reduceIte, Nat.reduceEqDiff, Nat.reduceLeDiff, x127, sa.len, sb.len, hab, Nat.lt_irrefl, h1, g1, e, Nat.lt_irrefl]
    · simp only [EVS, EVN, reduceIte, Nat.reduceEqDiff, Nat.reduceLeDiff, x127, sa.len, sb.len, hab, Nat.lt_irrefl, h1, g1, e, g2]
    · simp only [EVS, EVN, reduceIte, Nat.reduceEqDiff, Nat.reduceLeDiff, x127, sa.len, sb.len, hab, Nat.lt_irrefl, h1, g1, e, g2, Nat.lt_asymm e]
  · have lt : ∀ {a b : List Nat}, Dig a → Canon b → a.length < b.length → val a < val b := by
      intro a b da cb h
      have h1 := Nat.lt_of_lt_of_le (val_lt da) (pow_le_pow (Nat.le_of_lt_succ (by omega : a.length < b.length - 1 + 1)))
      exact Nat.lt_of_lt_of_le h1 (canon_ge cb (by omega))
    unfold cmpI
    by_cases h : a.length < b.length
    · have e := lt da cb h
      simp only [EVS, EVN, reduceIte, Nat.reduceEqDiff, Nat.reduceLeDiff, x127, sa.len, sb.len, h, e]
    · have e := lt db ca (by omega)
      simp only [EVS, EVN, reduceIte, Nat.reduceEqDiff, Nat.reduceLeDiff, x127, sa.len, sb.len, h, show b.length < a.length by omega, e, Nat.lt_asymm e]

theorem rword_ret {B : Base} (hB : Std B) {l : PL} {ws : List Nat} (s : SlW l ws) (d : Dig ws) (i : Nat) : Ret B 163 [.one l, .one (.int .i64 (.ofNat i))] (.one (.int .u64 (.ofNat (ws[i]?.getD 0)))) := by
  refine Ret.of (hB.tab _ _ rfl) (Evt.of fun K n => ?_)
  by_cases h : i < ws.length
  · obtain ⟨w, hw⟩ : ∃ w, ws[i]? = some w := ⟨_, List.getElem?_eq_getElem h⟩
    have f1 : w % 18446744073709551616 = w := Nat.mod_eq_of_lt (by have := d.get hw; omega)
    simp only [EVS, EVN, reduceIte, Nat.reduceEqDiff, Nat.reduceLeDiff, x163, s.len, h, s.idx hw, f1, hw, Option.getD_some]
  · have hw : ws[i]? = none := List.getElem?_eq_none (by omega)
    simp only [EVS, EVN, reduceIte, Nat.reduceEqDiff, Nat.reduceLeDiff, x163, s.len, h, hw, Option.getD_none]

theorem getD_lt {ws : List Nat} (d : Dig ws) (i : Nat) : ws[i]?.getD 0 < 4294967296 := by
  cases h : ws[i]? with
  | none => simp
  | some w => exact d.get h

theorem added_loop {E : Oracle} {K : Nat} {la lb : PL} {a b : List Nat} (da : Dig a) (db : Dig b) {n : Nat} (hn : n < 1000000000000) (hm : E.mode = md)
    (ea : ∀ i, i < n → E.pure 163 [.one la, .one (.int .i64 (.ofNat i))] = some (.one (.int .u64 (.ofNat (a[i]?.getD 0)))))
    (eb : ∀ i, i < n → E.pure 163 [.one lb, .one (.int .i64 (.ofNat i))] = some (.one (.int .u64 (.ofNat (b[i]?.getD 0))))) (t : Nat) :
    ∀ (d i k : Nat) (r : List Nat) (cy : Nat), i + d = n → d < k → r.length = n → Dig r → cy < 2 → (∀ j, i ≤ j → j < n → r[j]? = some 0) → val r + cy * 4294967296 ^ i = val (a.take i) + val (b.take i) →
    ∃ T' r' cy', loopK E K 0 [0, 1, 5, 6, 7, 8] x126_1 k ⟨[(0, .one (.p la)), (1, .one (.p lb)), (5, .one (.p (.int .i64 (.ofNat n)))), (6, .one (.own 0 0 0 n)), (7, .one (.p (.int .u64 (.ofNat cy)))), (8, .one (.p (.int .i64 (.ofNat i))))], [⟨false, 0, 1, wsD r, false, t⟩]⟩ = some (.exit 0, ⟨T', [⟨false, 0, 1, wsD r', false, t⟩]⟩) ∧
      getT T' 6 = some (.one (.own 0 0 0 n)) ∧ r'.length = n ∧ Dig r' ∧ val r' + cy' * 4294967296 ^ n = val (a.take n) + val (b.take n)
  | _, _, 0, _, _, _, h, _, _, _, _, _ => by omega
  | 0, i, k + 1, r, cy, hi, _, h1, h2, h3, h4, h5 => by
    obtain rfl : i = n := by omega
    have : ∃ T', loopK E K 0 [0, 1, 5, 6, 7, 8] x126_1 (k + 1) ⟨[(0, .one (.p la)), (1, .one (.p lb)), (5, .one (.p (.int .i64 (.ofNat i)))), (6, .one (.own 0 0 0 i)), (7, .one (.p (.int .u64 (.ofNat cy)))), (8, .one (.p (.int .i64 (.ofNat i))))], [⟨false, 0, 1, wsD r, false, t⟩]⟩ = some (.exit 0, ⟨T', [⟨false, 0, 1, wsD r, false, t⟩]⟩) ∧ getT T' 6 = some (.one (.own 0 0 0 i)) := by
      apply ex1
      · rw [loopK]
        simp only [EVS, EVN, reduceIte, Nat.reduceEqDiff, x126_1, Nat.lt_irrefl]
        rfl
      · simp only [EVS, reduceIte, Nat.reduceEqDiff]
    obtain ⟨T', g1, g2⟩ := this
    exact ⟨T', r, cy, g1, g2, h1, h2, h5⟩
  | d + 1, i, k + 1, r, cy, hi, hk, h1, h2, h3, h4, h5 => by
    have hlt : i < n := by omega
    have hw2 := getD_lt da i
    have hv2 := getD_lt db i
    have ea1 := ea i hlt
    have eb1 := eb i hlt
    have e3 := val_takeD a i
    have e4 := val_takeD b i
    generalize a[i]?.getD 0 = w at *
    generalize b[i]?.getD 0 = v at *
    have hr := h4 i (Nat.le_refl _) (by omega)
    have f1 : (w + v) % 18446744073709551616 = w + v := Nat.mod_eq_of_lt (by omega)
    have f2 : (w + v + cy) % 18446744073709551616 = w + v + cy := Nat.mod_eq_of_lt (by omega)
    have f3 : wrapF .i64 (.ofNat (i + 1)) = .ofNat (i + 1) := wrap_i64 (by omega)
    have f4 : (w + v + cy) % 4294967296 % 4294967296 = (w + v + cy) % 4294967296 := Nat.mod_mod _ _
    have f5 : (w + v + cy) / 4294967296 % 18446744073709551616 = (w + v + cy) / 4294967296 := Nat.mod_eq_of_lt (by omega)
    have q1 : binRem .u64 (.ofNat (w + v + cy)) (.ofNat 4294967296) = some (.p (.int .u64 (.ofNat ((w + v + cy) % 4294967296)))) := rfl
    have q2 : binQuo .u64 (.ofNat (w + v + cy)) (.ofNat 4294967296) = some (.p (.int .u64 (wrapF .u64 (.ofNat ((w + v + cy) / 4294967296))))) := rfl
    obtain ⟨T', r', cy', g1, g2⟩ := added_loop da db hn hm ea eb t d (i + 1) k (r.set i ((w + v + cy) % 4294967296)) ((w + v + cy) / 4294967296) (by omega) (by omega) (by simpa using h1) (h2.set i (by omega)) (by omega)
      (fun j hj1 hj2 => by rw [List.getElem?_set_ne (by omega)]; exact h4 j (by omega) hj2) (by
        have e1 := val_set (w := (w + v + cy) % 4294967296) hr
        rw [e3, e4]
        have e2 : (w + v + cy) % 4294967296 + 4294967296 * ((w + v + cy) / 4294967296) = w + v + cy := Nat.mod_add_div _ _
        rw [Nat.pow_succ]
        clear f4 f5 q1 q2 f1 f2
        generalize (w + v + cy) % 4294967296 = x at *
        generalize (w + v + cy) / 4294967296 = y at *
        generalize 4294967296 ^ i = p at *
        grind)
    refine ⟨T', r', cy', ?_, g2⟩
    rw [loopK]
    simp only [EVS, EVN, reduceIte, Nat.reduceEqDiff, Nat.reduceLeDiff, x126_1, hlt, hm, MDS, ea1, eb1, f1, f2, f3, f4, f5, q1, q2, wsD_get hr, wsD_set]
    exact g1

theorem added_ret {B : Base} (hB : Std B) {la lb : PL} {a b : List Nat} (sa : SlW la a) (sb : SlW lb b) (da : Dig a) (db : Dig b) (ha : a.length < 100000000000) (hb : b.length < 100000000000) :
    Ret B 126 [.one la, .one lb] (.one (.lst (wsP (wordsOf (val a + val b))))) := by
  obtain ⟨n, hn⟩ : ∃ n, n = max a.length b.length + 1 := ⟨_, rfl⟩
  have hv : val a + val b < 4294967296 ^ n := by
    have h1 := Nat.lt_of_lt_of_le (val_lt da) (pow_le_pow (show a.length ≤ n - 1 by omega))
    have h2 := Nat.lt_of_lt_of_le (val_lt db) (pow_le_pow (show b.length ≤ n - 1 by omega))
    have : 4294967296 ^ n = 4294967296 ^ (n - 1) * 4294967296 := by rw [← Nat.pow_succ]; congr 1; omega
    omega
  have h1 := rtrim_lst hB (ws := dg n (val a + val b)) (by rw [dg_len]; omega)
  rw [trim_dg hv] at h1
  refine Ret.of (hB.tab _ _ rfl) (((Evt.ge (n + 1)).and (h1.evt.and (hB.evt.and ((Evt.all n fun i _ => (rword_ret hB sa da i).evt).and (Evt.all n fun i _ => (rword_ret hB sb db i).evt))))).mono fun E K ⟨hK, e1, hm, ea, eb⟩ => ?_)
  obtain ⟨T', r', cy', g1, g2, g3, g4, g5⟩ := added_loop (E := E) (K := K) da db (show n < 1000000000000 by omega) hm ea eb 177 n 0 K (List.replicate n 0) 0 (by omega) (by omega) (by simp) (Dig.replicate _) (by decide)
    (fun j _ hj => by rw [List.getElem?_replicate, if_pos (by omega)]) (by rw [val_replicate]; simp [val])
  rw [List.take_of_length_le (show a.length ≤ n by omega), List.take_of_length_le (show b.length ≤ n by omega)] at g5
  have hr' : r' = dg n (val a + val b) := by
    have hc : cy' = 0 := by
      rcases Nat.eq_zero_or_pos cy' with h | h
      · exact h
      · have := Nat.mul_le_mul_right (4294967296 ^ n) h
        omega
    subst hc
    exact eq_dg' g4 g3 (by omega)
  subst hr'
  have f0 : maxD ltF .i64 (.ofNat a.length) [.one (.p (.int .i64 (.ofNat b.length)))] = some (.one (.p (.int .i64 (.ofNat (n - 1))))) := by
    simp only [maxD, keq, kidx, Nat.beq_refl, cond_true, ltF_nn]
    by_cases h : a.length < b.length
    · simp only [h, decide_true, cond_true]; congr 5; omega
    · simp only [h, decide_false, cond_false]; congr 5; omega
  have f1 : wrapF .i64 (.ofNat (n - 1 + 1)) = .ofNat n := by rw [show n - 1 + 1 = n by omega]; exact wrap_i64 (by omega)
  have f2 : 4 * n ≤ lim := by unfold lim; omega
  have f3 : n ≤ 9223372036854775807 := by omega
  have f4 : ∀ v, opMax ltF (.one (.p (.int .i64 (.ofNat a.length))) :: v) = (match maxD ltF .i64 (.ofNat a.length) v with | some v => some ⟨v, [], [], []⟩ | none => none) := fun _ => rfl
  simp only [EVS, EVN, reduceIte, Nat.reduceEqDiff, Nat.reduceLeDiff, x126, sa.len, sb.len, f4, f0, f1, f2, f3, Nat.le_refl, wsD_rep, g1, g2, htake _ (Nat.le_of_eq (dg_len n (val a + val b))), wsD_len, dg_len, frz_wsD, ids_wsD, hm, MDS, e1]

end Go.Proofs.YtidginchkjhobaaGreat

namespace Go.Proofs.YtidginchkjhobaaGreat
open Go.Ev Go.Num

theorem sub_u64' {a b : Nat} (h : b ≤ a) (h2 : a < 18446744073709551616) : wrapF .u64 (.ofNat a - .ofNat b) = .ofNat (a - b) := by
  rw [sub_nn h, wrap_u64, Nat.mod_eq_of_lt (by omega)]

theorem taken_loop {E : Oracle} {K : Nat} {la lb : PL} {a b : List Nat} (sa : SlW la a) (da : Dig a) (db : Dig b) (hl : a.length < 1000000000000) (hm : E.mode = md)
    (eb : ∀ i, i < a.length → E.pure 163 [.one lb, .one (.int .i64 (.ofNat i))] = some (.one (.int .u64 (.ofNat (b[i]?.getD 0))))) (t : Nat) :
    ∀ (d i k : Nat) (r : List Nat) (bw : Nat), i + d = a.length → d < k → r.length = a.length → Dig r → bw < 2 → (∀ j, i ≤ j → j < a.length → r[j]? = some 0) → val r + val (b.take i) = val (a.take i) + bw * 4294967296 ^ i →
    ∃ T' r' bw', loopK E K 0 [0, 1, 5, 6, 7] x128_1 k ⟨[(0, .one (.p la)), (1, .one (.p lb)), (5, .one (.own 0 0 0 a.length)), (6, .one (.p (.int .u64 (.ofNat bw)))), (7, .one (.p (.int .i64 (.ofNat i))))], [⟨false, 0, 1, wsD r, false, t⟩]⟩ = some (.exit 0, ⟨T', [⟨false, 0, 1, wsD r', false, t⟩]⟩) ∧
      getT T' 5 = some (.one (.own 0 0 0 a.length)) ∧ r'.length = a.length ∧ Dig r' ∧ val r' + val (b.take a.length) = val a + bw' * 4294967296 ^ a.length
  | _, _, 0, _, _, _, h, _, _, _, _, _ => by omega
  | 0, i, k + 1, r, bw, hi, _, h1, h2, h3, h4, h5 => by
    obtain rfl : i = a.length := by omega
    rw [List.take_length] at h5
    have : ∃ T', loopK E K 0 [0, 1, 5, 6, 7] x128_1 (k + 1) ⟨[(0, .one (.p la)), (1, .one (.p lb)), (5, .one (.own 0 0 0 a.length)), (6, .one (.p (.int .u64 (.ofNat bw)))), (7, .one (.p (.int .i64 (.ofNat a.length))))], [⟨false, 0, 1, wsD r, false, t⟩]⟩ = some (.exit 0, ⟨T', [⟨false, 0, 1, wsD r, false, t⟩]⟩) ∧
        getT T' 5 = some (.one (.own 0 0 0 a.length)) := by
      apply ex1
      · rw [loopK]
        simp only [EVS, EVN, reduceIte, Nat.reduceEqDiff, x128_1, sa.len, Nat.lt_irrefl]
        rfl
      · simp only [EVS, reduceIte, Nat.reduceEqDiff]
    obtain ⟨T', g1, g2⟩ := this
    exact ⟨T', r, bw, g1, g2, h1, h2, h5⟩
  | d + 1, i, k + 1, r, bw, hi, hk, h1, h2, h3, h4, h5 => by
    obtain ⟨w, hw⟩ : ∃ w, a[i]? = some w := ⟨_, List.getElem?_eq_getElem (by omega)⟩
    have hlt : i < a.length := by omega
    have hw2 := da.get hw
    have hr := h4 i (Nat.le_refl _) (by omega)
    have hv2 := getD_lt db i
    have eb1 := eb i hlt
    have e4 := val_takeD b i
    generalize b[i]?.getD 0 = v at *
    have f1 : w % 18446744073709551616 = w := Nat.mod_eq_of_lt (by omega)
    have f2 : (4294967296 + w) % 18446744073709551616 = 4294967296 + w := Nat.mod_eq_of_lt (by omega)
    have f3 : wrapF .i64 (.ofNat (i + 1)) = .ofNat (i + 1) := wrap_i64 (by omega)
    have f4 := sub_u64' (a := 4294967296 + w) (b := v) (by omega) (by omega)
    have f5 := sub_u64' (a := 4294967296 + w - v) (b := bw) (by omega) (by omega)
    obtain ⟨s, hs⟩ : ∃ s, s = 4294967296 + w - v - bw := ⟨_, rfl⟩
    rw [← hs] at f5
    have f6 : s % 4294967296 % 4294967296 = s % 4294967296 := Nat.mod_mod _ _
    have f7 : s / 4294967296 % 18446744073709551616 = s / 4294967296 := Nat.mod_eq_of_lt (by omega)
    have f8 := sub_u64' (a := 1) (b := s / 4294967296) (by omega) (by omega)
    have q1 : binRem .u64 (.ofNat s) (.ofNat 4294967296) = some (.p (.int .u64 (.ofNat (s % 4294967296)))) := rfl
    have q2 : binQuo .u64 (.ofNat s) (.ofNat 4294967296) = some (.p (.int .u64 (wrapF .u64 (.ofNat (s / 4294967296))))) := rfl
    have rel : s % 4294967296 + bw + v = w + 4294967296 * (1 - s / 4294967296) := by omega
    obtain ⟨T', r', bw', g1, g2⟩ := taken_loop sa da db hl hm eb t d (i + 1) k (r.set i (s % 4294967296)) (1 - s / 4294967296) (by omega) (by omega) (by simpa using h1) (h2.set i (by omega)) (by omega)
      (fun j hj1 hj2 => by rw [List.getElem?_set_ne (by omega)]; exact h4 j (by omega) hj2) (by
        have e1 := val_set (w := s % 4294967296) hr
        rw [val_take hw, e4, Nat.pow_succ]
        clear q1 q2 f6 f7 f8 f5 hs
        generalize s % 4294967296 = x at *
        generalize 1 - s / 4294967296 = y at *
        generalize 4294967296 ^ i = p at *
        grind)
    refine ⟨T', r', bw', ?_, g2⟩
    rw [loopK]
    simp only [EVS, EVN, reduceIte, Nat.reduceEqDiff, Nat.reduceLeDiff, x128_1, sa.len, hlt, sa.idx hw, hm, MDS, eb1, f1, f2, f3, f4, f5, f6, f7, f8, q1, q2, wsD_get hr, wsD_set]
    exact g1

theorem taken_ret {B : Base} (hB : Std B) {la lb : PL} {a b : List Nat} (sa : SlW la a) (sb : SlW lb b) (da : Dig a) (db : Dig b) (hab : b.length ≤ a.length) (hl : a.length < 100000000000) (hv : val b ≤ val a) :
    Ret B 128 [.one la, .one lb] (.one (.lst (wsP (wordsOf (val a - val b))))) := by
  have hva := val_lt da
  have h1 := rtrim_lst hB (ws := dg a.length (val a - val b)) (by rw [dg_len]; omega)
  rw [trim_dg (by omega)] at h1
  refine Ret.of (hB.tab _ _ rfl) (((Evt.ge (a.length + 1)).and (h1.evt.and (hB.evt.and (Evt.all a.length fun i _ => (rword_ret hB sb db i).evt)))).mono fun E K ⟨hK, e1, hm, eb⟩ => ?_)
  obtain ⟨T', r', bw', g1, g2, g3, g4, g5⟩ := taken_loop (E := E) (K := K) sa da db (by omega) hm eb 177 a.length 0 K (List.replicate a.length 0) 0 (by omega) (by omega) (by simp) (Dig.replicate _) (by decide)
    (fun j _ hj => by rw [List.getElem?_replicate, if_pos (by omega)]) (by rw [val_replicate]; simp [val])
  rw [List.take_of_length_le hab] at g5
  have hr' : r' = dg a.length (val a - val b) := by
    have := val_lt g4
    rw [g3] at this
    have hb0 : bw' = 0 := by
      rcases Nat.eq_zero_or_pos bw' with h | h
      · exact h
      · have := Nat.mul_le_mul_right (4294967296 ^ a.length) h
        omega
    subst hb0
    exact eq_dg' g4 g3 (by omega)
  subst hr'
  have f2 : 4 * a.length ≤ lim := by unfold lim; omega
  have f3 : a.length ≤ 9223372036854775807 := by omega
  simp only [EVS, EVN, reduceIte, Nat.reduceEqDiff, Nat.reduceLeDiff, x128, sa.len, f2, f3, Nat.le_refl, wsD_rep, g1, g2, htake _ (Nat.le_of_eq (dg_len a.length (val a - val b))), wsD_len, dg_len, frz_wsD, ids_wsD, hm, MDS, e1]

theorem times_in {E : Oracle} {K : Nat} {la lb : PL} {a b : List Nat} (sa : SlW la a) (sb : SlW lb b) (db : Dig b) (hl : a.length + b.length < 1000000000000) (t : Nat) {i x : Nat} (hi : a[i]? = some x) (hx : x < 4294967296) (V : Nat) :
    ∀ (d j k : Nat) (r : List Nat) (cy : Nat), j + d = b.length → d < k → r.length = a.length + b.length → Dig r → cy < 4294967296 → (∀ p, i + b.length ≤ p → p < a.length + b.length → r[p]? = some 0) → val r + cy * 4294967296 ^ (i + j) + x * 4294967296 ^ (i + j) * val (b.drop j) = V →
    ∃ T' r' cy', loopK E K 0 [0, 1, 5, 6, 7, 8] x129_1 k ⟨[(0, .one (.p la)), (1, .one (.p lb)), (5, .one (.own 0 0 0 (a.length + b.length))), (6, .one (.p (.int .i64 (.ofNat i)))), (7, .one (.p (.int .u64 (.ofNat cy)))), (8, .one (.p (.int .i64 (.ofNat j))))], [⟨false, 0, 1, wsD r, false, t⟩]⟩ = some (.exit 2, ⟨T', [⟨false, 0, 1, wsD r', false, t⟩]⟩) ∧
      (getT T' 0 = some (.one (.p la)) ∧ getT T' 1 = some (.one (.p lb)) ∧ getT T' 5 = some (.one (.own 0 0 0 (a.length + b.length))) ∧ getT T' 6 = some (.one (.p (.int .i64 (.ofNat i)))) ∧ getT T' 7 = some (.one (.p (.int .u64 (.ofNat cy'))))) ∧ r'.length = a.length + b.length ∧ Dig r' ∧ cy' < 4294967296 ∧ (∀ p, i + b.length ≤ p → p < a.length + b.length → r'[p]? = some 0) ∧ val r' + cy' * 4294967296 ^ (i + b.length) = V
  | _, _, 0, _, _, _, h, _, _, _, _, _ => by omega
  | 0, j, k + 1, r, cy, hj, _, h1, h2, h3, h4, h5 => by
    obtain rfl : j = b.length := by omega
    have : ∃ T', loopK E K 0 [0, 1, 5, 6, 7, 8] x129_1 (k + 1) ⟨[(0, .one (.p la)), (1, .one (.p lb)), (5, .one (.own 0 0 0 (a.length + b.length))), (6, .one (.p (.int .i64 (.ofNat i)))), (7, .one (.p (.int .u64 (.ofNat cy)))), (8, .one (.p (.int .i64 (.ofNat b.length))))], [⟨false, 0, 1, wsD r, false, t⟩]⟩ = some (.exit 2, ⟨T', [⟨false, 0, 1, wsD r, false, t⟩]⟩) ∧ (getT T' 0 = some (.one (.p la)) ∧ getT T' 1 = some (.one (.p lb)) ∧ getT T' 5 = some (.one (.own 0 0 0 (a.length + b.length))) ∧ getT T' 6 = some (.one (.p (.int .i64 (.ofNat i)))) ∧ getT T' 7 = some (.one (.p (.int .u64 (.ofNat cy))))) := by
      apply ex1
      · rw [loopK]
        simp only [EVS, EVN, reduceIte, Nat.reduceEqDiff, x129_1, sb.len, Nat.lt_irrefl]
        rfl
      · simp only [EVS, reduceIte, Nat.reduceEqDiff, and_self]
    obtain ⟨T', g1, g2⟩ := this
    refine ⟨T', r, cy, g1, g2, h1, h2, h3, h4, ?_⟩
    rw [List.drop_length] at h5
    simpa [val] using h5
  | d + 1, j, k + 1, r, cy, hj, hk, h1, h2, h3, h4, h5 => by
    have hia : i < a.length := (List.getElem?_eq_some_iff.1 hi).1
    have hlt : j < b.length := by omega
    obtain ⟨v, hv⟩ : ∃ v, b[j]? = some v := ⟨_, List.getElem?_eq_getElem hlt⟩
    obtain ⟨u, hu⟩ : ∃ u, r[i + j]? = some u := ⟨_, List.getElem?_eq_getElem (by omega)⟩
    have hv2 := db.get hv
    have hu2 := h2.get hu
    have hb := mul_lt64 hx hv2 hu2 h3
    have f0 : x % 18446744073709551616 = x := Nat.mod_eq_of_lt (by omega)
    have f1 : v % 18446744073709551616 = v := Nat.mod_eq_of_lt (by omega)
    have f2 : u % 18446744073709551616 = u := Nat.mod_eq_of_lt (by omega)
    have f3 : (x * v) % 18446744073709551616 = x * v := Nat.mod_eq_of_lt (by omega)
    have f4 : (x * v + u) % 18446744073709551616 = x * v + u := Nat.mod_eq_of_lt (by omega)
    have f5 : (x * v + u + cy) % 18446744073709551616 = x * v + u + cy := Nat.mod_eq_of_lt hb
    have f6 : wrapF .i64 (.ofNat (i + j)) = .ofNat (i + j) := wrap_i64 (by omega)
    have f7 : wrapF .i64 (.ofNat (j + 1)) = .ofNat (j + 1) := wrap_i64 (by omega)
    have f8 : i + j < a.length + b.length := by omega
    obtain ⟨s, hs⟩ : ∃ s, s = x * v + u + cy := ⟨_, rfl⟩
    rw [← hs] at f5
    have f9 : s % 4294967296 % 4294967296 = s % 4294967296 := Nat.mod_mod _ _
    have f10 : s / 4294967296 % 18446744073709551616 = s / 4294967296 := Nat.mod_eq_of_lt (by omega)
    have q1 : binRem .u64 (.ofNat s) (.ofNat 4294967296) = some (.p (.int .u64 (.ofNat (s % 4294967296)))) := rfl
    have q2 : binQuo .u64 (.ofNat s) (.ofNat 4294967296) = some (.p (.int .u64 (wrapF .u64 (.ofNat (s / 4294967296))))) := rfl
    obtain ⟨T', r', cy', g1, g2⟩ := times_in sa sb db hl t hi hx V d (j + 1) k (r.set (i + j) (s % 4294967296)) (s / 4294967296) (by omega) (by omega) (by simpa using h1) (h2.set _ (by omega)) (by omega)
      (fun p hp1 hp2 => by rw [List.getElem?_set_ne (by omega)]; exact h4 p hp1 hp2) (by
        have e1 := val_set (w := s % 4294967296) hu
        rw [val_drop hv] at h5
        have e2 : s % 4294967296 + 4294967296 * (s / 4294967296) = s := Nat.mod_add_div _ _
        rw [show i + (j + 1) = (i + j) + 1 by omega, Nat.pow_succ]
        clear hb f3 f4 f5 f1 f2 q1 q2 f9 f10
        generalize s % 4294967296 = y at *
        generalize s / 4294967296 = z at *
        generalize 4294967296 ^ (i + j) = p at *
        grind)
    refine ⟨T', r', cy', ?_, g2⟩
    rw [hs] at f5 q1 q2 f9 f10 g1
    rw [loopK]
    simp only [EVS, EVN, reduceIte, Nat.reduceEqDiff, Nat.reduceLeDiff, x129_1, sb.len, hlt, sa.idx hi, sb.idx hv, f0, f1, f2, f3, f4, f5, f6, f7, f8, f9, f10, q1, q2, wsD_get hu, wsD_set]
    exact g1

theorem times_out {E : Oracle} {K : Nat} {la lb : PL} {a b : List Nat} (sa : SlW la a) (sb : SlW lb b) (da : Dig a) (db : Dig b) (hl : a.length + b.length < 1000000000000) (hK : b.length < K) (t : Nat) :
    ∀ (d i k : Nat) (r : List Nat), i + d = a.length → d < k → r.length = a.length + b.length → Dig r → (∀ p, i + b.length ≤ p → p < a.length + b.length → r[p]? = some 0) → val r = val (a.take i) * val b →
    ∃ T' r', loopK E K 0 [0, 1, 5, 6] x129_2 k ⟨[(0, .one (.p la)), (1, .one (.p lb)), (5, .one (.own 0 0 0 (a.length + b.length))), (6, .one (.p (.int .i64 (.ofNat i))))], [⟨false, 0, 1, wsD r, false, t⟩]⟩ = some (.exit 0, ⟨T', [⟨false, 0, 1, wsD r', false, t⟩]⟩) ∧
      getT T' 5 = some (.one (.own 0 0 0 (a.length + b.length))) ∧ r'.length = a.length + b.length ∧ Dig r' ∧ val r' = val a * val b
  | _, _, 0, _, _, h, _, _, _, _ => by omega
  | 0, i, k + 1, r, hi, _, h1, h2, h3, h4 => by
    obtain rfl : i = a.length := by omega
    rw [List.take_length] at h4
    have : ∃ T', loopK E K 0 [0, 1, 5, 6] x129_2 (k + 1) ⟨[(0, .one (.p la)), (1, .one (.p lb)), (5, .one (.own 0 0 0 (a.length + b.length))), (6, .one (.p (.int .i64 (.ofNat a.length))))], [⟨false, 0, 1, wsD r, false, t⟩]⟩ = some (.exit 0, ⟨T', [⟨false, 0, 1, wsD r, false, t⟩]⟩) ∧ getT T' 5 = some (.one (.own 0 0 0 (a.length + b.length))) := by
      apply ex1
      · rw [loopK]
        simp only [EVS, EVN, reduceIte, Nat.reduceEqDiff, x129_2, sa.len, Nat.lt_irrefl]
        rfl
      · simp only [EVS, reduceIte, Nat.reduceEqDiff]
    obtain ⟨T', g1, g2⟩ := this
    exact ⟨T', r, g1, g2, h1, h2, h4⟩
  | d + 1, i, k + 1, r, hi, hk, h1, h2, h3, h4 => by
    have hlt : i < a.length := by omega
    obtain ⟨x, hx⟩ : ∃ x, a[i]? = some x := ⟨_, List.getElem?_eq_getElem hlt⟩
    have hx2 := da.get hx
    obtain ⟨T1, r1, cy, q1, ⟨q2, q3, q4, q5, q6⟩, q9, q10, q11, q12, q13⟩ := times_in (E := E) (K := K) sa sb db hl t hx hx2 (val r + x * 4294967296 ^ i * val b) b.length 0 K r 0 (by omega) hK h1 h2 (by decide) h3 (by simp)
    have hz := q12 (i + b.length) (Nat.le_refl _) (by omega)
    obtain ⟨T', r', g1, g2⟩ := times_out sa sb da db hl hK t d (i + 1) k (r1.set (i + b.length) (cy % 4294967296)) (by omega) (by omega) (by simpa using q9) (q10.set _ (by omega))
      (fun p hp1 hp2 => by rw [List.getElem?_set_ne (by omega)]; exact q12 p (by omega) hp2) (by
        have e1 := val_set (w := cy % 4294967296) hz
        rw [Nat.mod_eq_of_lt q11] at e1 ⊢
        rw [val_take hx, Nat.add_mul, ← h4]
        omega)
    refine ⟨T', r', ?_, g2⟩
    have f2 : wrapF .i64 (.ofNat (i + 1)) = .ofNat (i + 1) := wrap_i64 (by omega)
    have f3 : wrapF .i64 (.ofNat (i + b.length)) = .ofNat (i + b.length) := wrap_i64 (by omega)
    have f4 : i + b.length < a.length + b.length := by omega
    rw [loopK]
    simp only [EVS, EVN, reduceIte, Nat.reduceEqDiff, Nat.reduceLeDiff, x129_2, sa.len, sb.len, hlt, f2, f3, f4, q1, q2, q3, q4, q5, q6, wsD_get hz, wsD_set]
    exact g1

theorem times_ret {B : Base} (hB : Std B) {la lb : PL} {a b : List Nat} (sa : SlW la a) (sb : SlW lb b) (da : Dig a) (db : Dig b) (hl : a.length + b.length < 1000000000000) :
    Ret B 129 [.one la, .one lb] (.one (.lst (wsP (wordsOf (val a * val b))))) := by
  have hva := val_lt da
  have hvb := val_lt db
  have h1 := rtrim_lst hB (ws := dg (a.length + b.length) (val a * val b)) (by rw [dg_len]; omega)
  rw [trim_dg (by rw [Nat.pow_add]; exact Nat.mul_lt_mul'' hva hvb)] at h1
  refine Ret.of (hB.tab _ _ rfl) (((Evt.ge (a.length + b.length + 1)).and (h1.evt.and hB.evt)).mono fun E K ⟨hK, e1, hm⟩ => ?_)
  obtain ⟨T', r', g1, g2, g3, g4, g5⟩ := times_out (E := E) (K := K) sa sb da db hl (by omega) 177 a.length 0 K (List.replicate (a.length + b.length) 0) (by omega) (by omega) (by simp) (Dig.replicate _)
    (fun j _ hj => by rw [List.getElem?_replicate, if_pos (by omega)]) (by rw [val_replicate]; simp [val])
  obtain rfl := eq_dg' g4 g3 g5
  have f1 : wrapF .i64 (.ofNat (a.length + b.length)) = .ofNat (a.length + b.length) := wrap_i64 (by omega)
  have f2 : 4 * (a.length + b.length) ≤ lim := by unfold lim; omega
  have f3 : a.length + b.length ≤ 9223372036854775807 := by omega
  simp only [EVS, EVN, reduceIte, Nat.reduceEqDiff, Nat.reduceLeDiff, x129, sa.len, sb.len, f1, f2, f3, Nat.le_refl, wsD_rep, g1, g2, htake _ (Nat.le_of_eq (dg_len (a.length + b.length) (val a * val b))), wsD_len, dg_len, frz_wsD, ids_wsD, hm, MDS, e1]

end Go.Proofs.YtidginchkjhobaaGreat

namespace Go.Proofs.YtidginchkjhobaaGreat
open Go.Ev Go.Num

theorem rmade_ret {B : Base} (hB : Std B) {l : PL} {ws : List Nat} (neg : Bool) (s : SlW l ws) (d : Dig ws) (hl : ws.length < 1000000000000) : ∃ c, Ret B 92 [.one (.bool neg), .one l] (.agg c) ∧ IsI c (if neg then -(val ws : Int) else val ws) := by
  obtain ⟨r, h1, h2⟩ := rtrim_ret hB s (by omega)
  rw [trim_words d rfl] at h2
  have hz : (if neg then -(val ws : Int) else val ws).natAbs = val ws := by cases neg <;> simp
  refine ⟨[.bool (decide ((if neg then -(val ws : Int) else val ws) < 0)), r], Ret.of (hB.tab _ _ rfl) ((h1.evt.and hB.evt).mono fun E K ⟨e1, hm⟩ => ?_), r, rfl, by rw [hz]; exact h2⟩
  cases neg with
  | false =>
    have : ¬ ((val ws : Int) < 0) := by omega
    simp only [EVS, EVN, reduceIte, Nat.reduceEqDiff, Nat.reduceLeDiff, x92, hm, MDS, e1, this]
  | true =>
    have h3 : ((-(val ws : Int)) < 0) = (0 < (wordsOf (val ws)).length) := by
      have := @words_len0 (val ws)
      simp only [eq_iff_iff]; omega
    simp only [EVS, EVN, reduceIte, Nat.reduceEqDiff, Nat.reduceLeDiff, x92, hm, MDS, e1, h2.len, h3]

theorem rwords_ret {B : Base} (hB : Std B) {m : Nat} (hm : m < 18446744073709551616) : Ret B 93 [.one (.int .u64 (.ofNat m))] (.one (.lst (wsP (wordsOf m)))) := by
  have h1 : Ret B 139 [.one (.lst [[.int .u32 (.ofNat (m % 4294967296))], [.int .u32 (.ofNat (m / 4294967296))]])] (.one (.lst (wsP (wordsOf m)))) := by
    have := rtrim_lst hB (ws := [m % 4294967296, m / 4294967296]) (by simp)
    rw [trim_words (n := m) (Dig.mk (by omega) (Dig.mk (by omega) Dig.nil)) (by simp only [val]; omega)] at this
    exact this
  refine Ret.of (hB.tab _ _ rfl) ((h1.evt.and hB.evt).mono fun E K ⟨e1, hm⟩ => ?_)
  have q1 : binRem .u64 (.ofNat m) (.ofNat 4294967296) = some (.p (.int .u64 (.ofNat (m % 4294967296)))) := rfl
  have q2 : binQuo .u64 (.ofNat m) (.ofNat 4294967296) = some (.p (.int .u64 (wrapF .u64 (.ofNat (m / 4294967296))))) := rfl
  have f1 : m % 4294967296 % 4294967296 = m % 4294967296 := Nat.mod_mod _ _
  have f2 : m / 4294967296 % 18446744073709551616 % 4294967296 = m / 4294967296 := by omega
  simp only [EVS, EVN, reduceIte, Nat.reduceEqDiff, Nat.reduceLeDiff, Nat.reduceLT, Nat.reduceAdd, x93, q1, q2, f1, f2, hm, MDS, e1]

theorem words_len64 {m : Nat} (h : m < 18446744073709551616) : (wordsOf m).length ≤ 2 := words_len_lt (by simpa using h)

theorem rof_nat {B : Base} (hB : Std B) {m : Nat} (hm : m < 9223372036854775808) : ∃ c, Ret B 49 [.one (.int .i64 (.ofNat m))] (.agg c) ∧ IsI c m := by
  have h1 := rwords_ret hB (m := m) (by omega)
  have hlen := words_len64 (m := m) (by omega)
  obtain ⟨c, h2, h3⟩ := rmade_ret hB false (l := .lst (wsP (wordsOf m))) .lst (words_dig m) (by omega)
  rw [val_words] at h3
  refine ⟨c, Ret.of (hB.tab _ _ rfl) ((h1.evt.and (h2.evt.and hB.evt)).mono fun E K ⟨e1, e2, hm2⟩ => ?_), by simpa using h3⟩
  obtain ⟨l, rfl, -⟩ := h3
  have f1 : m % 18446744073709551616 = m := Nat.mod_eq_of_lt (by omega)
  simp only [EVS, EVN, reduceIte, Nat.reduceEqDiff, Nat.reduceLeDiff, Nat.reduceAdd, x49, f1, Nat.not_lt_zero, hm2, MDS, e1, e2]

theorem rof_neg {B : Base} (hB : Std B) {m : Nat} (hm : m < 9223372036854775808) : ∃ c, Ret B 49 [.one (.int .i64 (.negSucc m))] (.agg c) ∧ IsI c (.negSucc m) := by
  have h1 := rwords_ret hB (m := m + 1) (by omega)
  have hlen := words_len64 (m := m + 1) (by omega)
  obtain ⟨c, h2, h3⟩ := rmade_ret hB true (l := .lst (wsP (wordsOf (m + 1)))) .lst (words_dig _) (by omega)
  rw [val_words] at h3
  refine ⟨c, Ret.of (hB.tab _ _ rfl) ((h1.evt.and (h2.evt.and hB.evt)).mono fun E K ⟨e1, e2, hm2⟩ => ?_), by simpa [Int.negSucc_eq] using h3⟩
  obtain ⟨l, rfl, -⟩ := h3
  have f1 : m % 18446744073709551616 = m := Nat.mod_eq_of_lt (by omega)
  have f2 : (m + 1) % 18446744073709551616 = m + 1 := Nat.mod_eq_of_lt (by omega)
  have f3 : wrapF .i64 (0 - wrapF .i64 (Int.negSucc m + Int.ofNat 1)) = .ofNat m := by
    cases m with
    | zero => rfl
    | succ m =>
      have e : (Int.negSucc (m + 1) + Int.ofNat 1) = Int.negSucc m := by simp only [Int.negSucc_eq, Int.ofNat_eq_natCast]; omega
      rw [e]
      have e2 : wrapF .i64 (Int.negSucc m) = Int.negSucc m := by
        have h0 : m % 18446744073709551616 = m := Nat.mod_eq_of_lt (by omega)
        have h4 : Nat.ble 9223372036854775808 (18446744073709551615 - m) = true := ble_t (by omega)
        show signF .i64 (18446744073709551615 - m % 18446744073709551616) = _
        rw [h0]
        show (bif true && Nat.ble 9223372036854775808 (18446744073709551615 - m) then _ else _) = _
        rw [h4]
        show Int.negSucc (18446744073709551616 - (18446744073709551615 - m) - 1) = _
        congr 1; omega
      rw [e2, show (0 - Int.negSucc m : Int) = Int.ofNat (m + 1) by simp only [Int.negSucc_eq, Int.ofNat_eq_natCast]; omega]
      exact wrap_i64 hm
  simp only [EVS, EVN, reduceIte, Nat.reduceEqDiff, Nat.reduceLeDiff, Nat.reduceAdd, x49, f3, f1, f2, hm2, MDS, e1, e2]

theorem rsign_ret {B : Base} (hB : Std B) {c : List PL} {z : Int} (hc : IsI c z) : Ret B 77 [.agg c] (.one (.int .i64 (sgn z))) := by
  obtain ⟨m, rfl, hm⟩ := hc
  refine Ret.of (hB.tab _ _ rfl) (Evt.of fun K n => ?_)
  unfold sgn
  by_cases h1 : z < 0
  · have h0 : z ≠ 0 := by omega
    simp only [EVS, EVN, reduceIte, Nat.reduceEqDiff, Nat.reduceLeDiff, Nat.reduceAdd, x77, h0, h1]
  · have hmin : ∀ n : Nat, opMax (fun a b => ltF b a) [.one (.p (.int .i64 (.ofNat n))), .one (.p (.int .i64 (.ofNat 1)))] = some ⟨.one (.p (.int .i64 (.ofNat (if n = 0 then 0 else 1)))), [], [], []⟩ := by
      intro n
      simp only [opMax, maxD, keq, kidx, Nat.beq_refl, cond_true, ltF_nn, Res.pure]
      by_cases h : 1 < n
      · simp only [h, decide_true, cond_true]; rw [if_neg (by omega)]
      · simp only [h, decide_false, cond_false]
        rcases Nat.eq_zero_or_pos n with e | e
        · rw [if_pos e, e]
        · rw [if_neg (by omega), show n = 1 by omega]
    have h2 : ((wordsOf z.natAbs).length = 0) = (z = 0) := by rw [eq_iff_iff, words_len0]; omega
    by_cases h0 : z = 0
    · rw [if_pos h0]
      have h3 : (wordsOf z.natAbs).length = 0 := by rw [h2]; exact h0
      simp only [EVS, EVN, reduceIte, Nat.reduceEqDiff, Nat.reduceLeDiff, Nat.reduceAdd, x77, hm.len, hmin, h3, h1]
    · simp only [EVS, EVN, reduceIte, Nat.reduceEqDiff, Nat.reduceLeDiff, Nat.reduceAdd, x77, hm.len, hmin, h2, h0, h1]

theorem rneg_ret {B : Base} (hB : Std B) {c : List PL} {z : Int} (hc : IsI c z) (hz : Sm z) : ∃ c', Ret B 124 [.agg c] (.agg c') ∧ IsI c' (-z) := by
  obtain ⟨m, rfl, hm⟩ := hc
  unfold Sm at hz
  obtain ⟨c', h3, h4⟩ := rmade_ret hB (!decide (z < 0)) hm (words_dig _) (by omega)
  rw [val_words] at h4
  refine ⟨c', Ret.of (hB.tab _ _ rfl) ((h3.evt.and hB.evt).mono fun E K ⟨e2, hm2⟩ => ?_), ?_⟩
  · obtain ⟨l, rfl, -⟩ := h4
    simp (decide := true) only [EVS, EVN, reduceIte, Nat.reduceAdd, x124, hm2, MDS, e2]
  · have : -z = (if (!decide (z < 0)) = true then -(z.natAbs : Int) else z.natAbs) := by
      by_cases h : z < 0
      · simp [h]; omega
      · simp [h]; omega
    rw [this]; exact h4

theorem ltF_cmpI (m n : Nat) : ltF (cmpI m n) (.ofNat 0) = decide (m < n) := by
  unfold cmpI
  by_cases h : m < n
  · rw [if_pos h, decide_eq_true h]; rfl
  · rw [if_neg h, decide_eq_false h]
    split <;> rfl

theorem rmul_ret {B : Base} (hB : Std B) {c d : List PL} {x y : Int} (hc : IsI c x) (hd : IsI d y) (hx : Sm x) (hy : Sm y) : ∃ e, Ret B 76 [.agg c, .agg d] (.agg e) ∧ IsI e (x * y) := by
  obtain ⟨m, rfl, hm⟩ := hc
  obtain ⟨n, rfl, hn⟩ := hd
  unfold Sm at hx hy
  have h1 := times_ret hB hm hn (words_dig _) (words_dig _) (by omega)
  rw [val_words, val_words] at h1
  have hlen : (wordsOf (x.natAbs * y.natAbs)).length < 1000000000000 := by
    have := words_mul_len x.natAbs y.natAbs
    omega
  obtain ⟨e, h2, h3⟩ := rmade_ret hB (decide (x < 0) != decide (y < 0)) (l := .lst (wsP (wordsOf (x.natAbs * y.natAbs)))) .lst (words_dig _) hlen
  rw [val_words] at h3
  refine ⟨e, Ret.of (hB.tab _ _ rfl) ((h1.evt.and (h2.evt.and hB.evt)).mono fun E K ⟨e1, e2, hm2⟩ => ?_), ?_⟩
  · obtain ⟨l, rfl, -⟩ := h3
    have hq : ((decide (x < 0) == decide (y < 0)) != true) = (decide (x < 0) != decide (y < 0)) := by
      cases decide (x < 0) <;> cases decide (y < 0) <;> rfl
    simp (decide := true) only [EVS, EVN, reduceIte, Nat.reduceAdd, x76, hm2, MDS, e1, e2, hq]
  · have : x * y = (if (decide (x < 0) != decide (y < 0)) = true then -((x.natAbs * y.natAbs : Nat) : Int) else ((x.natAbs * y.natAbs : Nat) : Int)) := by
      rw [Int.natCast_mul]
      by_cases h : x < 0 <;> by_cases k : y < 0
      · simp only [h, k, decide_true, bne_self_eq_false, Bool.false_eq_true, if_false]
        rw [show (x.natAbs : Int) = -x by omega, show (y.natAbs : Int) = -y by omega]; grind
      · simp only [h, k, decide_true, decide_false, bne_iff_ne, ne_eq, Bool.true_eq_false, not_false_eq_true, if_true]
        rw [show (x.natAbs : Int) = -x by omega, show (y.natAbs : Int) = y by omega]; grind
      · simp only [h, k, decide_true, decide_false, bne_iff_ne, ne_eq, Bool.false_eq_true, not_false_eq_true, if_true]
        rw [show (x.natAbs : Int) = x by omega, show (y.natAbs : Int) = -y by omega]; grind
      · simp only [h, k, decide_false, bne_self_eq_false, Bool.false_eq_true, if_false]
        rw [show (x.natAbs : Int) = x by omega, show (y.natAbs : Int) = y by omega]
    rw [this]; exact h3

theorem radd_ret {B : Base} (hB : Std B) {c d : List PL} {x y : Int} (hc : IsI c x) (hd : IsI d y) (hx : Sm x) (hy : Sm y) : ∃ e, Ret B 75 [.agg c, .agg d] (.agg e) ∧ IsI e (x + y) := by
  obtain ⟨m, rfl, hm⟩ := hc
  obtain ⟨n, rfl, hn⟩ := hd
  unfold Sm at hx hy
  by_cases hs : decide (x < 0) = decide (y < 0)
  · have h1 := added_ret hB hm hn (words_dig _) (words_dig _) (by omega) (by omega)
    rw [val_words, val_words] at h1
    have hlen : (wordsOf (x.natAbs + y.natAbs)).length < 1000000000000 := by
      have := words_add_len x.natAbs y.natAbs
      omega
    obtain ⟨e, h2, h3⟩ := rmade_ret hB (decide (x < 0)) (l := .lst (wsP (wordsOf (x.natAbs + y.natAbs)))) .lst (words_dig _) hlen
    rw [val_words] at h3
    refine ⟨e, Ret.of (hB.tab _ _ rfl) ((h1.evt.and (h2.evt.and hB.evt)).mono fun E K ⟨e1, e2, hm2⟩ => ?_), ?_⟩
    · obtain ⟨l, rfl, -⟩ := h3
      rw [← hs]
      have hq : (decide (x < 0) == decide (x < 0)) = true := beq_self_eq_true _
      simp (decide := true) only [EVS, EVN, reduceIte, Nat.reduceAdd, x75, hm2, MDS, e1, e2, hq]
    · have : x + y = (if decide (x < 0) = true then -((x.natAbs + y.natAbs : Nat) : Int) else ((x.natAbs + y.natAbs : Nat) : Int)) := by
        by_cases h : x < 0
        · have k : y < 0 := by simpa [h] using hs
          simp only [h, decide_true, if_true]; omega
        · have k : ¬ y < 0 := by simpa [h] using hs
          simp only [h, decide_false, Bool.false_eq_true, if_false]; omega
      rw [this]; exact h3
  · have hq : (decide (x < 0) == decide (y < 0)) = false := by simpa using hs
    have h0 := compared_ret hB hm hn (words_dig _) (words_dig _) (words_canon _) (words_canon _) (by omega) (by omega)
    rw [val_words, val_words] at h0
    have hxy : (x < 0 ∧ ¬ y < 0) ∨ (¬ x < 0 ∧ y < 0) := by
      by_cases h : x < 0 <;> by_cases k : y < 0 <;> simp [h, k] at hs ⊢
    by_cases hle : y.natAbs ≤ x.natAbs
    · have hlt : ¬ x.natAbs < y.natAbs := by omega
      have h1 := taken_ret hB hm hn (words_dig _) (words_dig _) (words_len_le hle) (by omega) (by rw [val_words, val_words]; exact hle)
      rw [val_words, val_words] at h1
      have hlen : (wordsOf (x.natAbs - y.natAbs)).length < 1000000000000 := by
        have := words_len_le (Nat.sub_le x.natAbs y.natAbs)
        omega
      obtain ⟨e, h2, h3⟩ := rmade_ret hB (decide (x < 0)) (l := .lst (wsP (wordsOf (x.natAbs - y.natAbs)))) .lst (words_dig _) hlen
      rw [val_words] at h3
      refine ⟨e, Ret.of (hB.tab _ _ rfl) ((h0.evt.and (h1.evt.and (h2.evt.and hB.evt))).mono fun E K ⟨e0, e1, e2, hm2⟩ => ?_), ?_⟩
      · obtain ⟨l, rfl, -⟩ := h3
        simp (decide := true) only [EVS, EVN, reduceIte, Nat.reduceAdd, x75, hm2, MDS, e0, e1, e2, hq, ltF_cmpI, hlt]
      · have : x + y = (if decide (x < 0) = true then -((x.natAbs - y.natAbs : Nat) : Int) else ((x.natAbs - y.natAbs : Nat) : Int)) := by
          rcases hxy with ⟨h, k⟩ | ⟨h, k⟩
          · simp only [h, decide_true, if_true]; omega
          · simp only [h, decide_false, Bool.false_eq_true, if_false]; omega
        rw [this]; exact h3
    · have hlt : x.natAbs < y.natAbs := by omega
      have h1 := taken_ret hB hn hm (words_dig _) (words_dig _) (words_len_le (by omega)) (by omega) (by rw [val_words, val_words]; omega)
      rw [val_words, val_words] at h1
      have hlen : (wordsOf (y.natAbs - x.natAbs)).length < 1000000000000 := by
        have := words_len_le (Nat.sub_le y.natAbs x.natAbs)
        omega
      obtain ⟨e, h2, h3⟩ := rmade_ret hB (decide (y < 0)) (l := .lst (wsP (wordsOf (y.natAbs - x.natAbs)))) .lst (words_dig _) hlen
      rw [val_words] at h3
      refine ⟨e, Ret.of (hB.tab _ _ rfl) ((h0.evt.and (h1.evt.and (h2.evt.and hB.evt))).mono fun E K ⟨e0, e1, e2, hm2⟩ => ?_), ?_⟩
      · obtain ⟨l, rfl, -⟩ := h3
        simp (decide := true) only [EVS, EVN, reduceIte, Nat.reduceAdd, x75, hm2, MDS, e0, e1, e2, hq, ltF_cmpI, hlt]
      · have : x + y = (if decide (y < 0) = true then -((y.natAbs - x.natAbs : Nat) : Int) else ((y.natAbs - x.natAbs : Nat) : Int)) := by
          rcases hxy with ⟨h, k⟩ | ⟨h, k⟩
          · simp only [k, decide_false, Bool.false_eq_true, if_false]; omega
          · simp only [k, decide_true, if_true]; omega
        rw [this]; exact h3

end Go.Proofs.YtidginchkjhobaaGreat

namespace Go.Proofs.YtidginchkjhobaaGreat
open Go.Ev Go.Num

theorem rnumber_ret {B : Base} (hB : Std B) {l : PL} {ws : List Nat} (s : SlW l ws) (d : Dig ws) (hl : ws.length ≤ 2) : Ret B 184 [.one l] (.one (.int .u64 (.ofNat (val ws)))) := by
  have h0 := rword_ret hB s d 0
  have h1 := rword_ret hB s d 1
  have b0 := getD_lt d 0
  have b1 := getD_lt d 1
  have hv : val ws = ws[1]?.getD 0 * 4294967296 + ws[0]?.getD 0 := by
    match ws, hl with
    | [], _ => rfl
    | [w], _ => simp [val]
    | [w, v], _ => simp [val]; omega
  refine Ret.of (hB.tab _ _ rfl) ((h0.evt.and (h1.evt.and hB.evt)).mono fun E K ⟨e0, e1, hm⟩ => ?_)
  rw [hv]
  generalize ws[1]?.getD 0 = x at *
  generalize ws[0]?.getD 0 = y at *
  have f1 : x * 4294967296 % 18446744073709551616 = x * 4294967296 := Nat.mod_eq_of_lt (by omega)
  have f2 : (x * 4294967296 + y) % 18446744073709551616 = x * 4294967296 + y := Nat.mod_eq_of_lt (by omega)
  simp only [EVS, EVN, reduceIte, Nat.reduceEqDiff, Nat.reduceLeDiff, x184, hm, MDS, e0, e1, f1, f2]

theorem reuclid_loop {E : Oracle} {K : Nat} : ∀ (b a k : Nat) (H : List Blk), b < k → a < 18446744073709551616 → b < 18446744073709551616 →
    ∃ T', loopK E K 0 [0, 1] x183_1 k ⟨[(0, .one (.p (.int .u64 (.ofNat a)))), (1, .one (.p (.int .u64 (.ofNat b))))], H⟩ = some (.exit 0, ⟨T', H⟩) ∧ getT T' 0 = some (.one (.p (.int .u64 (.ofNat (Nat.gcd a b))))) := by
  intro b
  induction b using Nat.strongRecOn with
  | ind b ih =>
    intro a k H hk ha hb
    obtain ⟨k, rfl⟩ : ∃ k', k = k' + 1 := ⟨k - 1, by omega⟩
    cases b with
    | zero =>
      apply ex1
      · rw [loopK]
        simp only [EVS, EVN, reduceIte, Nat.reduceEqDiff, x183_1, Nat.lt_irrefl]
        rfl
      · simp only [EVS, reduceIte, Nat.reduceEqDiff, Nat.gcd_zero_right]
    | succ b =>
      have hlt : a % (b + 1) < b + 1 := Nat.mod_lt _ (by omega)
      obtain ⟨T', g1, g2⟩ := ih (a % (b + 1)) hlt (b + 1) k H (by omega) (by omega) (by omega)
      have e : Nat.gcd a (b + 1) = Nat.gcd (b + 1) (a % (b + 1)) := by
        rw [Nat.gcd_comm, Nat.gcd_rec]; exact Nat.gcd_comm _ _
      refine ⟨T', ?_, by rw [g2, e]⟩
      rw [loopK]
      simp only [EVS, EVN, reduceIte, Nat.reduceEqDiff, x183_1, Nat.zero_lt_succ]
      exact g1

theorem reuclid_ret {B : Base} (hB : Std B) {a b : Nat} (ha : a < 18446744073709551616) (hb : b < 18446744073709551616) : Ret B 183 [.one (.int .u64 (.ofNat a)), .one (.int .u64 (.ofNat b))] (.one (.int .u64 (.ofNat (Nat.gcd a b)))) := by
  refine Ret.of (hB.tab _ _ rfl) ((Evt.ge (b + 1)).mono fun E K hK => ?_)
  obtain ⟨T', g1, g2⟩ := reuclid_loop (E := E) (K := K) b a K [] (by omega) ha hb
  simp only [EVS, EVN, reduceIte, Nat.reduceEqDiff, Nat.reduceLeDiff, x183, g1, g2]

/-- The greatest common divisor of a number of at most two words and 1. -/
theorem rcommon_one {B : Base} (hB : Std B) {la lb : PL} {n : Nat} (sa : IsW la n) (sb : IsW lb 1) (hn : n < 18446744073709551616) : Ret B 161 [.one la, .one lb] (.one (.lst (wsP (wordsOf 1)))) := by
  have h1 := rnumber_ret hB sa (words_dig n) (words_len64 hn)
  have h2 := rnumber_ret hB sb (words_dig 1) (words_len64 (by omega))
  rw [val_words] at h1 h2
  have h3 := reuclid_ret hB hn (show 1 < 18446744073709551616 by decide)
  rw [Nat.gcd_one_right] at h3
  have h4 := rwords_ret hB (m := 1) (by decide)
  have l1 : (wordsOf 1).length = 1 := words_len.2 (by decide)
  have l2 : (wordsOf n).length ≤ 2 := words_len64 hn
  refine Ret.of (hB.tab _ _ rfl) ((h1.evt.and (h2.evt.and (h3.evt.and (h4.evt.and (hB.evt.and (Evt.ge 1)))))).mono fun E K ⟨e1, e2, e3, e4, hm, hK⟩ => ?_)
  obtain ⟨K', rfl⟩ : ∃ K', K = K' + 1 := ⟨K - 1, by omega⟩
  simp only [EVS, EVN, reduceIte, Nat.reduceEqDiff, Nat.reduceLeDiff, Nat.reduceLT, x161, x161_1, loopK, sb.len, l1, sa.len, l2, hm, MDS, e1, e2, e3, e4]

theorem rgcd_one {B : Base} (hB : Std B) {c d : List PL} {x : Int} (hc : IsI c x) (hd : IsI d 1) (hx : x.natAbs < 18446744073709551616) : ∃ e, Ret B 123 [.agg c, .agg d] (.agg e) ∧ IsI e 1 := by
  obtain ⟨m, rfl, hm⟩ := hc
  obtain ⟨n, rfl, hn⟩ := hd
  have h1 := rcommon_one hB hm hn hx
  obtain ⟨e, h2, h3⟩ := rmade_ret hB false (l := .lst (wsP (wordsOf 1))) .lst (words_dig 1) (by rw [words_len.2 (by decide)]; omega)
  rw [val_words] at h3
  refine ⟨e, Ret.of (hB.tab _ _ rfl) ((h1.evt.and (h2.evt.and hB.evt)).mono fun E K ⟨e1, e2, hm2⟩ => ?_), by simpa using h3⟩
  obtain ⟨l, rfl, -⟩ := h3
  simp (decide := true) only [EVS, EVN, reduceIte, Nat.reduceAdd, x123, hm2, MDS, e1, e2]

theorem drop_set {ws : List Nat} {n w : Nat} (h : n < ws.length) : (ws.set n w).drop n = w :: ws.drop (n + 1) := by
  rw [List.drop_eq_getElem_cons (by simpa using h), List.getElem_set_self, List.drop_set_of_lt (by omega)]

theorem rshort_loop {E : Oracle} {K : Nat} {la : PL} {a : List Nat} (sa : SlW la a) (da : Dig a) (hl : a.length < 1000000000000) (t : Nat) {d : Nat} (hd : 0 < d) (hd2 : d < 4294967296) :
    ∀ (n k : Nat) (q : List Nat) (r : Nat), n < k → n ≤ a.length → q.length = a.length → Dig q → r < d → val (a.drop n) = d * val (q.drop n) + r →
    ∃ T' q' r', loopK E K 0 [0, 1, 6, 7, 8] x194_1 k ⟨[(0, .one (.p la)), (1, .one (.p (.int .u64 (.ofNat d)))), (6, .one (.own 0 0 0 a.length)), (7, .one (.p (.int .u64 (.ofNat r)))), (8, .one (.p (.int .i64 (pI n))))], [⟨false, 0, 1, wsD q, false, t⟩]⟩ = some (.exit 0, ⟨T', [⟨false, 0, 1, wsD q', false, t⟩]⟩) ∧
      (getT T' 6 = some (.one (.own 0 0 0 a.length)) ∧ getT T' 7 = some (.one (.p (.int .u64 (.ofNat r'))))) ∧ q'.length = a.length ∧ Dig q' ∧ r' < d ∧ val a = d * val q' + r'
  | _, 0, _, _, h, _, _, _, _, _ => by omega
  | 0, k + 1, q, r, _, _, h1, h2, h3, h4 => by
    have : ∃ T', loopK E K 0 [0, 1, 6, 7, 8] x194_1 (k + 1) ⟨[(0, .one (.p la)), (1, .one (.p (.int .u64 (.ofNat d)))), (6, .one (.own 0 0 0 a.length)), (7, .one (.p (.int .u64 (.ofNat r)))), (8, .one (.p (.int .i64 (pI 0))))], [⟨false, 0, 1, wsD q, false, t⟩]⟩ = some (.exit 0, ⟨T', [⟨false, 0, 1, wsD q, false, t⟩]⟩) ∧
        (getT T' 6 = some (.one (.own 0 0 0 a.length)) ∧ getT T' 7 = some (.one (.p (.int .u64 (.ofNat r))))) := by
      apply ex1
      · rw [loopK]
        simp only [EVS, EVN, reduceIte, Nat.reduceEqDiff, x194_1, pI]
        rfl
      · simp only [EVS, reduceIte, Nat.reduceEqDiff, and_self]
    obtain ⟨T', g1, g2⟩ := this
    exact ⟨T', q, r, g1, g2, h1, h2, h3, by simpa using h4⟩
  | n + 1, k + 1, q, r, hk, hn, h1, h2, h3, h4 => by
    obtain ⟨w, hw⟩ : ∃ w, a[n]? = some w := ⟨_, List.getElem?_eq_getElem (by omega)⟩
    obtain ⟨u, hu⟩ : ∃ u, q[n]? = some u := ⟨_, List.getElem?_eq_getElem (by omega)⟩
    have hw2 := da.get hw
    obtain ⟨s, hs⟩ : ∃ s, s = r * 4294967296 + w := ⟨_, rfl⟩
    have hsd : s / d < 4294967296 := Nat.div_lt_of_lt_mul (by
      have := Nat.mul_le_mul_right 4294967296 (show r + 1 ≤ d from h3)
      rw [Nat.add_mul] at this
      omega)
    have f1 : w % 18446744073709551616 = w := Nat.mod_eq_of_lt (by omega)
    have f2 : r * 4294967296 % 18446744073709551616 = r * 4294967296 := Nat.mod_eq_of_lt (by omega)
    have f3 : (r * 4294967296 + w) % 18446744073709551616 = s := by rw [← hs]; exact Nat.mod_eq_of_lt (by omega)
    have f4 : wrapF .u32 (wrapF .u64 (.ofNat (s / d))) = .ofNat (s / d) := by
      rw [wrap_u64, Nat.mod_eq_of_lt (show s / d < 18446744073709551616 by omega), wrap_u32, Nat.mod_eq_of_lt hsd]
    have q1 : binRem .u64 (.ofNat s) (.ofNat d) = some (.p (.int .u64 (.ofNat (s % d)))) := by
      obtain ⟨d', rfl⟩ : ∃ d', d = d' + 1 := ⟨d - 1, by omega⟩; rfl
    have q2 : binQuo .u64 (.ofNat s) (.ofNat d) = some (.p (.int .u64 (wrapF .u64 (.ofNat (s / d))))) := by
      obtain ⟨d', rfl⟩ : ∃ d', d = d' + 1 := ⟨d - 1, by omega⟩; rfl
    have hp := pred_i64 (n := n) (by omega)
    have hna : n < a.length := by omega
    obtain ⟨T', q', r', g1, g2⟩ := rshort_loop sa da hl t hd hd2 n k (q.set n (s / d)) (s % d) (by omega) (by omega) (by simpa using h1) (h2.set n hsd) (Nat.mod_lt _ hd) (by
      rw [drop_set (by omega), val_drop hw, h4]
      simp only [val]
      have := Nat.div_add_mod s d
      generalize s / d = x at *
      generalize s % d = y at *
      grind)
    refine ⟨T', q', r', ?_, g2⟩
    rw [loopK]
    simp only [EVS, EVN, reduceIte, Nat.reduceEqDiff, Nat.reduceLeDiff, x194_1, pI, Nat.zero_le, sa.idx hw, f1, f2, f3, q1, q2, hna, wsD_get hu, hp]
    simp only [← wrap_u64, ← wrap_u32, f4, wsD_set]
    exact g1

end Go.Proofs.YtidginchkjhobaaGreat

namespace Go.Proofs.YtidginchkjhobaaGreat
open Go.Ev Go.Num

theorem rshort_ret {B : Base} (hB : Std B) {la : PL} {a : List Nat} (sa : SlW la a) (da : Dig a) (hl : a.length < 1000000000000) {d : Nat} (hd : 0 < d) (hd2 : d < 4294967296) :
    Ret B 194 [.one la, .one (.int .u64 (.ofNat d))] (.tup [.one (.lst (wsP (wordsOf (val a / d)))), .one (.int .u64 (.ofNat (val a % d)))]) := by
  have hva := val_lt da
  have hq : val a / d < 4294967296 ^ a.length := Nat.lt_of_le_of_lt (Nat.div_le_self _ _) hva
  have h1 := rtrim_lst hB (ws := dg a.length (val a / d)) (by rw [dg_len]; omega)
  rw [trim_dg hq] at h1
  refine Ret.of (hB.tab _ _ rfl) (((Evt.ge (a.length + 1)).and (h1.evt.and hB.evt)).mono fun E K ⟨hK, e1, hm⟩ => ?_)
  obtain ⟨T', q', r', g1, ⟨g2, g2'⟩, g3, g4, g5, g6⟩ := rshort_loop (E := E) (K := K) sa da hl 177 hd hd2 a.length K (List.replicate a.length 0) 0 (by omega) (Nat.le_refl _) (by simp) (Dig.replicate _) hd (by simp [val])
  have hqv : val q' = val a / d := by
    rw [g6, Nat.mul_add_div hd, Nat.div_eq_of_lt g5]; omega
  have hrv : r' = val a % d := by
    rw [g6, Nat.mul_add_mod, Nat.mod_eq_of_lt g5]
  obtain rfl := eq_dg' g4 g3 hqv
  subst hrv
  have f1 := pred_i64 (n := a.length) (by omega)
  have f2 : 4 * a.length ≤ lim := by unfold lim; omega
  have f3 : a.length ≤ 9223372036854775807 := by omega
  simp only [EVS, EVN, reduceIte, Nat.reduceEqDiff, Nat.reduceLeDiff, x194, sa.len, f1, f2, f3, Nat.le_refl, wsD_rep, g1, g2, g2', htake _ (Nat.le_of_eq (dg_len a.length (val a / d))), wsD_len, dg_len, frz_wsD, ids_wsD, hm, MDS, e1]

/-- Division by 1. -/
theorem rdivmod_one {B : Base} (hB : Std B) {c d : List PL} {x : Int} (hc : IsI c x) (hd : IsI d 1) (hx : Sm x) : ∃ e f, Ret B 162 [.agg c, .agg d] (.tup [.agg e, .agg f, .one (.int .i64 (.ofNat 0))]) ∧ IsI e x ∧ IsI f 0 := by
  obtain ⟨m, rfl, hm⟩ := hc
  obtain ⟨n, rfl, hn⟩ := hd
  unfold Sm at hx
  have hn1 : SlW n [1] := by have h := hn; rw [show Int.natAbs 1 = 1 from rfl] at h; unfold IsW at h; rwa [words_small (by decide) (by decide)] at h
  have l1 : (opLen [.one (.p n)]) = some ⟨.one (.p (.int .i64 (.ofNat 1))), [], [], []⟩ := hn1.len
  have i1 : ∀ h k, opIndexS 1 h [.one (.p n), .one (.p (.int k (.ofNat 0)))] = some ⟨.one (.p (.ref [.int .u32 (.ofNat 1)])), [], [], []⟩ := fun h k => hn1.idx rfl
  have h0 := compared_ret hB hm hn (words_dig _) (words_dig _) (words_canon _) (words_canon _) (by omega) (by rw [words_len.2 (by decide)]; omega)
  rw [val_words, val_words, show Int.natAbs 1 = 1 from rfl] at h0
  have hdec : decide ((1 : Int) < 0) = false := rfl
  by_cases hz : x.natAbs = 0
  · -- 0
    obtain rfl : x = 0 := by omega
    have hm0 : SlW m [] := by have h := hm; rw [show Int.natAbs 0 = 0 from rfl] at h; unfold IsW at h; rwa [words_zero] at h
    obtain ⟨e, h1, he⟩ := rmade_ret hB false (l := .nilS) (ws := []) Sl.nil Dig.nil (by simp)
    obtain ⟨f, h2, hf⟩ := rmade_ret hB false hm0 Dig.nil (by simp)
    have h3 : Ret B 185 [.one m, .one n] (.tup [.one .nilS, .one m]) := by
      refine Ret.of (hB.tab _ _ rfl) ((h0.evt.and hB.evt).mono fun E K ⟨e0, hm2⟩ => ?_)
      simp only [show Int.natAbs 0 = 0 from rfl] at e0
      simp only [EVS, EVN, reduceIte, Nat.reduceEqDiff, Nat.reduceLeDiff, Nat.reduceLT, x185, hm2, MDS, e0, ltF_cmpI]
    refine ⟨e, f, Ret.of (hB.tab _ _ rfl) ((h1.evt.and (h2.evt.and (h3.evt.and hB.evt))).mono fun E K ⟨e1, e2, e3, hm2⟩ => ?_), by simpa [val] using he, by simpa [val] using hf⟩
    obtain ⟨l, rfl, -⟩ := he
    obtain ⟨l', rfl, -⟩ := hf
    simp (decide := true) only [EVS, EVN, reduceIte, Nat.reduceAdd, x162, hm2, MDS, e1, e2, e3, l1]
  · have h1 := rshort_ret hB hm (words_dig _) (by omega) (d := 1) (by decide) (by decide)
    rw [val_words, Nat.div_one, Nat.mod_one] at h1
    have h2 := rwords_ret hB (m := 0) (by decide)
    rw [words_zero] at h2
    have h3 : Ret B 185 [.one m, .one n] (.tup [.one (.lst (wsP (wordsOf x.natAbs))), .one (.lst (wsP []))]) := by
      refine Ret.of (hB.tab _ _ rfl) ((h0.evt.and (h1.evt.and (h2.evt.and hB.evt))).mono fun E K ⟨e0, e1, e2, hm2⟩ => ?_)
      have : ¬ x.natAbs < 1 := by omega
      simp only [EVS, EVN, reduceIte, Nat.reduceEqDiff, Nat.reduceLeDiff, Nat.reduceMod, x185, hm2, MDS, e0, ltF_cmpI, this, l1, i1, e1, e2]
    obtain ⟨e, h4, he⟩ := rmade_ret hB (decide (x < 0)) (l := .lst (wsP (wordsOf x.natAbs))) .lst (words_dig _) (by omega)
    obtain ⟨f, h5, hf⟩ := rmade_ret hB false (l := .lst (wsP [])) .lst Dig.nil (by simp)
    rw [val_words] at he
    refine ⟨e, f, Ret.of (hB.tab _ _ rfl) ((h3.evt.and (h4.evt.and (h5.evt.and hB.evt))).mono fun E K ⟨e1, e2, e3, hm2⟩ => ?_), ?_, by simpa [val] using hf⟩
    · obtain ⟨l, rfl, -⟩ := he
      obtain ⟨l', rfl, -⟩ := hf
      have hlen0 : (wsP []).length = 0 := rfl
      have hq : ((decide (x < 0) == false) != true) = decide (x < 0) := by cases decide (x < 0) <;> rfl
      by_cases hneg : x < 0
      · simp only [hneg, decide_true] at e2 hq ⊢
        simp (decide := true) only [EVS, EVN, reduceIte, Nat.reduceAdd, x162, hm2, MDS, e1, e2, e3, l1, hlen0]
      · simp only [hneg, decide_false] at e2 hq ⊢
        simp (decide := true) only [EVS, EVN, reduceIte, Nat.reduceAdd, x162, hm2, MDS, e1, e2, e3, l1]
    · have : x = (if decide (x < 0) = true then -(x.natAbs : Int) else x.natAbs) := by
        by_cases h : x < 0
        · simp only [h, decide_true, if_true]; omega
        · simp only [h, decide_false, Bool.false_eq_true, if_false]; omega
      rw [← this] at he; exact he

theorem rexact_one {B : Base} (hB : Std B) {c d : List PL} {x : Int} (hc : IsI c x) (hd : IsI d 1) (hx : Sm x) : ∃ e, Ret B 125 [.agg c, .agg d] (.agg e) ∧ IsI e x := by
  obtain ⟨e, f, h1, he, hf⟩ := rdivmod_one hB hc hd hx
  obtain ⟨c1, c2, ec⟩ := hc.len
  obtain ⟨d1, d2, ed⟩ := hd.len
  obtain ⟨e1, e2, ee⟩ := he.len
  obtain ⟨f1, f2, ef⟩ := hf.len
  subst ec ed ee ef
  refine ⟨_, Ret.of (hB.tab _ _ rfl) ((h1.evt.and hB.evt).mono fun E K ⟨e1, hm2⟩ => ?_), he⟩
  simp (decide := true) only [EVS, EVN, reduceIte, Nat.reduceAdd, x125, hm2, MDS, e1]

theorem rlowest_one {B : Base} (hB : Std B) {c d : List PL} {x : Int} (hc : IsI c x) (hd : IsI d 1) (hx : x.natAbs < 18446744073709551616) : ∃ e, Ret B 74 [.agg c, .agg d] (.agg e) ∧ IsZ e x := by
  have hs : Sm x := by unfold Sm; have := words_len64 hx; omega
  obtain ⟨g, h1, hg⟩ := rgcd_one hB hc hd hx
  have h2 := rsign_ret hB hd
  obtain ⟨e, h3, he⟩ := rexact_one hB hc hg hs
  obtain ⟨f, h4, hf⟩ := rexact_one hB hd hg sm_one
  obtain ⟨c1, c2, ec⟩ := hc.len
  obtain ⟨d1, d2, ed⟩ := hd.len
  obtain ⟨g1, g2, eg⟩ := hg.len
  obtain ⟨e1, e2, ee⟩ := he.len
  obtain ⟨f1, f2, ef⟩ := hf.len
  subst ec ed eg ee ef
  refine ⟨_, Ret.of (hB.tab _ _ rfl) ((h1.evt.and (h2.evt.and (h3.evt.and (h4.evt.and hB.evt)))).mono fun E K ⟨e1, e2, e3, e4, hm2⟩ => ?_), ⟨_, _, _, _, rfl, he, hf⟩⟩
  have hq : ltF (sgn 1) (.ofNat 0) = false := rfl
  simp (decide := true) only [EVS, EVN, reduceIte, Nat.reduceAdd, x74, hm2, MDS, e1, e2, e3, e4, hq]

/-- A small whole number. -/
def S31 (x : Int) : Prop := x.natAbs < 4294967296
theorem S31.sm {x : Int} (h : S31 x) : Sm x := by unfold S31 at h; unfold Sm; have := words_len64 (m := x.natAbs) (by omega); omega

theorem rAdd_z {B : Base} (hB : Std B) {c d : List PL} {x y : Int} (hc : IsZ c x) (hd : IsZ d y) (hx : S31 x) (hy : S31 y) : ∃ e, Ret B 36 [.agg c, .agg d] (.agg e) ∧ IsZ e (x + y) := by
  obtain ⟨n1, m1, n2, m2, rfl, hc1, hc2⟩ := hc
  obtain ⟨n3, m3, n4, m4, rfl, hd1, hd2⟩ := hd
  obtain ⟨p, h1, hp⟩ := rmul_ret hB hc1 hd2 hx.sm sm_one
  obtain ⟨q, h2, hq⟩ := rmul_ret hB hd1 hc2 hy.sm sm_one
  obtain ⟨r, h3, hr⟩ := rmul_ret hB hc2 hd2 sm_one sm_one
  rw [Int.mul_one] at hp hq hr
  obtain ⟨s, h4, hs⟩ := radd_ret hB hp hq hx.sm hy.sm
  obtain ⟨e, h5, he⟩ := rlowest_one hB hs hr (by unfold S31 at hx hy; omega)
  obtain ⟨p1, p2, ep⟩ := hp.len
  obtain ⟨q1, q2, eq⟩ := hq.len
  obtain ⟨r1, r2, er⟩ := hr.len
  obtain ⟨s1, s2, es⟩ := hs.len
  have he' := he
  obtain ⟨a1, a2, a3, a4, ee, -, -⟩ := he'
  subst ep eq er es ee
  refine ⟨_, Ret.of (hB.tab _ _ rfl) ((h1.evt.and (h2.evt.and (h3.evt.and (h4.evt.and (h5.evt.and hB.evt))))).mono fun E K ⟨e1, e2, e3, e4, e5, hm⟩ => ?_), he⟩
  simp (decide := true) only [EVS, EVN, reduceIte, Nat.reduceAdd, x36, hm, MDS, e1, e2, e3, e4, e5]

theorem rMul_z {B : Base} (hB : Std B) {c d : List PL} {x y : Int} (hc : IsZ c x) (hd : IsZ d y) (hx : S31 x) (hy : S31 y) : ∃ e, Ret B 91 [.agg c, .agg d] (.agg e) ∧ IsZ e (x * y) := by
  obtain ⟨n1, m1, n2, m2, rfl, hc1, hc2⟩ := hc
  obtain ⟨n3, m3, n4, m4, rfl, hd1, hd2⟩ := hd
  obtain ⟨p, h1, hp⟩ := rmul_ret hB hc1 hd1 hx.sm hy.sm
  obtain ⟨r, h3, hr⟩ := rmul_ret hB hc2 hd2 sm_one sm_one
  rw [Int.mul_one] at hr
  have hxy : (x * y).natAbs < 18446744073709551616 := by
    rw [Int.natAbs_mul]
    exact Nat.lt_of_lt_of_le (Nat.mul_lt_mul'' hx hy) (by decide)
  obtain ⟨e, h5, he⟩ := rlowest_one hB hp hr hxy
  obtain ⟨p1, p2, ep⟩ := hp.len
  obtain ⟨r1, r2, er⟩ := hr.len
  have he' := he
  obtain ⟨a1, a2, a3, a4, ee, -, -⟩ := he'
  subst ep er ee
  refine ⟨_, Ret.of (hB.tab _ _ rfl) ((h1.evt.and (h3.evt.and (h5.evt.and hB.evt))).mono fun E K ⟨e1, e3, e5, hm⟩ => ?_), he⟩
  simp (decide := true) only [EVS, EVN, reduceIte, Nat.reduceAdd, x91, hm, MDS, e1, e3, e5]

theorem rSign_z {B : Base} (hB : Std B) {c : List PL} {x : Int} (hc : IsZ c x) : Ret B 37 [.agg c] (.one (.int .i64 (sgn x))) := by
  obtain ⟨n1, m1, n2, m2, rfl, hc1, hc2⟩ := hc
  have h1 := rsign_ret hB hc1
  refine Ret.of (hB.tab _ _ rfl) ((h1.evt.and hB.evt).mono fun E K ⟨e1, hm⟩ => ?_)
  simp (decide := true) only [EVS, EVN, reduceIte, Nat.reduceAdd, x37, hm, MDS, e1]

theorem rWhole_ret {B : Base} (hB : Std B) {x : Int} (hx : S31 x) : ∃ c, Ret B 18 [.one (.int .i64 x)] (.agg c) ∧ IsZ c x := by
  unfold S31 at hx
  obtain ⟨c, h1, hc⟩ : ∃ c, Ret B 49 [.one (.int .i64 x)] (.agg c) ∧ IsI c x := by
    cases x with
    | ofNat m => exact rof_nat hB (by simp at hx; omega)
    | negSucc m => exact rof_neg hB (by simp at hx; omega)
  obtain ⟨d, h2, hd⟩ := rof_nat hB (m := 1) (by decide)
  obtain ⟨c1, c2, ec⟩ := hc.len
  obtain ⟨d1, d2, ed⟩ := hd.len
  subst ec ed
  refine ⟨_, Ret.of (hB.tab _ _ rfl) ((h1.evt.and (h2.evt.and hB.evt)).mono fun E K ⟨e1, e2, hm⟩ => ?_), ⟨_, _, _, _, rfl, hc, hd⟩⟩
  simp (decide := true) only [EVS, EVN, reduceIte, Nat.reduceAdd, x18, hm, MDS, e1, e2]

end Go.Proofs.YtidginchkjhobaaGreat
