/- Package integer: words. -/
import Derived.Test.YtidginchkjhobaaGreatStd
namespace Go.Proofs.YtidginchkjhobaaGreat
open Go.Ev Go.Num

theorem trim_loop {E : Oracle} {K : Nat} {l : PL} {ws : List Nat} (s : SlW l ws) (hl : ws.length < 9223372036854775808) : ∀ (n k : Nat) (H : List Blk), n < k → n ≤ ws.length →
    ∃ T', loopK E K 0 [0, 3] x175_1 k ⟨[(0, .one (.p l)), (3, .one (.p (.int .i64 (.ofNat n))))], H⟩ = some (.exit 0, ⟨T', H⟩) ∧ getT T' 0 = some (.one (.p l)) ∧ getT T' 3 = some (.one (.p (.int .i64 (.ofNat (trimW (ws.take n)).length))))
  | _, 0, _, h, _ => by omega
  | 0, k + 1, H, _, _ => by
    apply ex1
    · rw [loopK]
      simp only [EVS, EVN, reduceIte, Nat.reduceEqDiff, x175_1, Nat.lt_irrefl]
      rfl
    · simp only [EVS, reduceIte, Nat.reduceEqDiff, trimW, and_self]
  | n + 1, k + 1, H, hk, hn => by
    obtain ⟨w, hw⟩ : ∃ w, ws[n]? = some w := ⟨_, List.getElem?_eq_getElem (by omega)⟩
    have h1 : wrapF .i64 (Int.ofNat (n + 1) - Int.ofNat 1) = Int.ofNat n := sub_i64 (by omega) (by omega)
    rw [take_snoc hw, trim_snoc]
    by_cases h0 : w = 0
    · subst h0
      obtain ⟨T', g1, g2⟩ := trim_loop s hl n k H (by omega) (by omega)
      refine ⟨T', ?_, g2⟩
      rw [loopK]
      simp only [EVS, EVN, reduceIte, Nat.reduceEqDiff, x175_1, Nat.zero_lt_succ, h1, s.idx hw]
      exact g1
    · apply ex1
      · rw [loopK]
        simp only [EVS, EVN, reduceIte, Nat.reduceEqDiff, x175_1, Nat.zero_lt_succ, h1, s.idx hw, h0]
        rfl
      · simp only [EVS, reduceIte, Nat.reduceEqDiff, h0, List.length_append, List.length_take, Nat.min_eq_left (show n ≤ ws.length by omega), and_self]

theorem trim_lst {B : Base} (hB : Std B) {ws : List Nat} (hl : ws.length < 9223372036854775808) : Ret B 175 [.one (.lst (wsP ws))] (.one (.lst (wsP (trimW ws)))) := by
  have s : SlW (.lst (wsP ws)) ws := .lst
  refine Ret.of (hB.tab _ _ rfl) ((Evt.ge (ws.length + 1)).mono fun E K hK => ?_)
  obtain ⟨T', g1, g2, g3⟩ := trim_loop (E := E) (K := K) s hl ws.length K [] (by omega) (Nat.le_refl _)
  rw [List.take_length] at g3
  have h1 : ∀ h, sliceIn 1 h (.p (.lst (wsP ws))) 0 (some (trimW ws).length) = some (.p (.lst (wsP (trimW ws))), []) := by
    intro h
    obtain ⟨r, h1, h2⟩ := s.upto (n := (trimW ws).length) (trim_len ws)
    have := h1 h
    rw [← trim_eq] at h2
    rcases h2 with rfl | ⟨-, rfl⟩
    · exact this
    · simp only [sliceIn] at this
      obtain ⟨-, h3⟩ := cond_some this
      simp at h3
  simp only [EVS, EVN, reduceIte, Nat.reduceEqDiff, Nat.reduceLeDiff, x175, s.len, g1, g2, g3, h1]
theorem trim_ret {B : Base} (hB : Std B) {l : PL} {ws : List Nat} (s : SlW l ws) (hl : ws.length < 9223372036854775808) : ∃ r, Ret B 175 [.one l] (.one r) ∧ SlW r (trimW ws) := by
  obtain ⟨r, h1, h2⟩ := s.upto (n := (trimW ws).length) (trim_len ws)
  rw [← trim_eq] at h2
  refine ⟨r, Ret.of (hB.tab _ _ rfl) ((Evt.ge (ws.length + 1)).mono fun E K hK => ?_), h2⟩
  obtain ⟨T', g1, g2, g3⟩ := trim_loop (E := E) (K := K) s hl ws.length K [] (by omega) (Nat.le_refl _)
  rw [List.take_length] at g3
  simp only [EVS, EVN, reduceIte, Nat.reduceEqDiff, Nat.reduceLeDiff, x175, s.len, g1, g2, g3, h1]

theorem sum_loop {E : Oracle} {K : Nat} {la lb : PL} {a b : List Nat} (sa : SlW la a) (sb : SlW lb b) (da : Dig a) (db : Dig b) (hab : b.length ≤ a.length) (hl : a.length < 1000000000000) (t : Nat) :
    ∀ (d i k : Nat) (r : List Nat) (cy : Nat), i + d = a.length → d < k → r.length = a.length + 1 → Dig r → cy < 2 → (∀ j, i ≤ j → j ≤ a.length → r[j]? = some 0) → val r + cy * 4294967296 ^ i = val (a.take i) + val (b.take i) →
    ∃ T' r' cy', loopK E K 0 [0, 1, 5, 6, 21, 22] x179_1 k ⟨[(0, .one (.p la)), (1, .one (.p lb)), (5, .one (.own 0 0 0 (a.length + 1))), (6, .one (.p (.int .u64 (.ofNat cy)))), (21, .one (.p (.int .i64 (.ofNat a.length)))), (22, .one (.p (.int .i64 (.ofNat i))))], [⟨false, 0, 1, wsD r, false, t⟩]⟩ = some (.exit 0, ⟨T', [⟨false, 0, 1, wsD r', false, t⟩]⟩) ∧
      getT T' 0 = some (.one (.p la)) ∧ getT T' 5 = some (.one (.own 0 0 0 (a.length + 1))) ∧ getT T' 6 = some (.one (.p (.int .u64 (.ofNat cy')))) ∧ r'.length = a.length + 1 ∧ Dig r' ∧ cy' < 2 ∧ r'[a.length]? = some 0 ∧ val r' + cy' * 4294967296 ^ a.length = val a + val b
  | _, _, 0, _, _, _, h, _, _, _, _, _ => by omega
  | 0, i, k + 1, r, cy, hi, _, h1, h2, h3, h4, h5 => by
    obtain rfl : i = a.length := by omega
    rw [List.take_length, List.take_of_length_le hab] at h5
    have : ∃ T', loopK E K 0 [0, 1, 5, 6, 21, 22] x179_1 (k + 1) ⟨[(0, .one (.p la)), (1, .one (.p lb)), (5, .one (.own 0 0 0 (a.length + 1))), (6, .one (.p (.int .u64 (.ofNat cy)))), (21, .one (.p (.int .i64 (.ofNat a.length)))), (22, .one (.p (.int .i64 (.ofNat a.length))))], [⟨false, 0, 1, wsD r, false, t⟩]⟩ = some (.exit 0, ⟨T', [⟨false, 0, 1, wsD r, false, t⟩]⟩) ∧
        getT T' 0 = some (.one (.p la)) ∧ getT T' 5 = some (.one (.own 0 0 0 (a.length + 1))) ∧ getT T' 6 = some (.one (.p (.int .u64 (.ofNat cy)))) := by
      apply ex1
      · rw [loopK]
        simp only [EVS, EVN, reduceIte, Nat.reduceEqDiff, x179_1, Nat.lt_irrefl]
        rfl
      · simp only [EVS, reduceIte, Nat.reduceEqDiff, and_self]
    obtain ⟨T', g1, g2, g3, g4⟩ := this
    exact ⟨T', r, cy, g1, g2, g3, g4, h1, h2, h3, h4 _ (Nat.le_refl _) (Nat.le_refl _), h5⟩
  | d + 1, i, k + 1, r, cy, hi, hk, h1, h2, h3, h4, h5 => by
    obtain ⟨w, hw⟩ : ∃ w, a[i]? = some w := ⟨_, List.getElem?_eq_getElem (by omega)⟩
    have hlt : i < a.length := by omega
    have hw2 := da.get hw
    have hr := h4 i (Nat.le_refl _) (by omega)
    have f1 : w % 18446744073709551616 = w := Nat.mod_eq_of_lt (by omega)
    have f2 : (w + cy) % 18446744073709551616 = w + cy := Nat.mod_eq_of_lt (by omega)
    have f3 : wrapF .i64 (.ofNat (i + 1)) = .ofNat (i + 1) := wrap_i64 (by omega)
    have f4 : i < a.length + 1 := by omega
    by_cases hib : i < b.length
    · obtain ⟨v, hv⟩ : ∃ v, b[i]? = some v := ⟨_, List.getElem?_eq_getElem hib⟩
      have hv2 := db.get hv
      have f5 : v % 18446744073709551616 = v := Nat.mod_eq_of_lt (by omega)
      have f6 : (w + cy + v) % 18446744073709551616 = w + cy + v := Nat.mod_eq_of_lt (by omega)
      obtain ⟨T', r', cy', g1, g2⟩ := sum_loop sa sb da db hab hl t d (i + 1) k (r.set i ((w + cy + v) % 4294967296)) ((w + cy + v) / 4294967296) (by omega) (by omega) (by simpa using h1) (h2.set i (by omega)) (by omega)
        (fun j hj1 hj2 => by rw [List.getElem?_set_ne (by omega)]; exact h4 j (by omega) hj2) (by
          have e1 := val_set (w := (w + cy + v) % 4294967296) hr
          rw [val_take hw, val_take hv]
          have e2 : (w + cy + v) % 4294967296 + 4294967296 * ((w + cy + v) / 4294967296) = w + cy + v := Nat.mod_add_div _ _
          rw [Nat.pow_succ]
          generalize (w + cy + v) % 4294967296 = x at *
          generalize (w + cy + v) / 4294967296 = y at *
          generalize 4294967296 ^ i = p at *
          grind)
      refine ⟨T', r', cy', ?_, g2⟩
      rw [loopK]
      simp only [EVS, EVN, reduceIte, Nat.reduceEqDiff, Nat.reduceLeDiff, x179_1, hlt, sa.idx hw, sb.len, hib, sb.idx hv, f1, f2, f3, f4, f5, f6, wsD_get hr, wsD_set]
      exact g1
    · obtain ⟨T', r', cy', g1, g2⟩ := sum_loop sa sb da db hab hl t d (i + 1) k (r.set i ((w + cy) % 4294967296)) ((w + cy) / 4294967296) (by omega) (by omega) (by simpa using h1) (h2.set i (by omega)) (by omega)
        (fun j hj1 hj2 => by rw [List.getElem?_set_ne (by omega)]; exact h4 j (by omega) hj2) (by
          have e1 := val_set (w := (w + cy) % 4294967296) hr
          rw [val_take hw, List.take_of_length_le (show b.length ≤ i + 1 by omega)]
          rw [List.take_of_length_le (show b.length ≤ i by omega)] at h5
          have e2 : (w + cy) % 4294967296 + 4294967296 * ((w + cy) / 4294967296) = w + cy := Nat.mod_add_div _ _
          rw [Nat.pow_succ]
          generalize (w + cy) % 4294967296 = x at *
          generalize (w + cy) / 4294967296 = y at *
          generalize 4294967296 ^ i = p at *
          grind)
      refine ⟨T', r', cy', ?_, g2⟩
      rw [loopK]
      simp only [EVS, EVN, reduceIte, Nat.reduceEqDiff, Nat.reduceLeDiff, x179_1, hlt, sa.idx hw, sb.len, hib, f1, f2, f3, f4, wsD_get hr, wsD_set]
      exact g1

theorem htake (ws : List Nat) {n : Nat} (h : ws.length ≤ n) : (wsD ws).take n = wsD ws := List.take_of_length_le (by rw [wsD_len]; exact h)

theorem sum_fin {E : Oracle} {K : Nat} {la lb : PL} {a b : List Nat} (sa : SlW la a) (sb : SlW lb b) (da : Dig a) (db : Dig b) (hab : b.length ≤ a.length) (hl : a.length < 1000000000000) (t : Nat) (hK : a.length < K) :
    ∃ T' cy' r', loopK E K 0 [0, 1, 5, 6, 21, 22] x179_1 K ⟨[(0, .one (.p la)), (1, .one (.p lb)), (5, .one (.own 0 0 0 (a.length + 1))), (6, .one (.p (.int .u64 (.ofNat 0)))), (21, .one (.p (.int .i64 (.ofNat a.length)))), (22, .one (.p (.int .i64 (.ofNat 0))))], [⟨false, 0, 1, wsD (List.replicate (a.length + 1) 0), false, t⟩]⟩ = some (.exit 0, ⟨T', [⟨false, 0, 1, wsD r', false, t⟩]⟩) ∧
      getT T' 0 = some (.one (.p la)) ∧ getT T' 5 = some (.one (.own 0 0 0 (a.length + 1))) ∧ getT T' 6 = some (.one (.p (.int .u64 (.ofNat cy')))) ∧ r'[a.length]? = some 0 ∧ r'.set a.length (cy' % 4294967296) = dg (a.length + 1) (val a + val b) := by
  obtain ⟨T', r', cy', g1, g2, g3, g4, g5, g6, g7, g8, g9⟩ := sum_loop (E := E) (K := K) sa sb da db hab hl t a.length 0 K (List.replicate (a.length + 1) 0) 0 (by omega) hK (by simp) (Dig.replicate _) (by decide)
    (fun j _ hj => by rw [List.getElem?_replicate, if_pos (by omega)]) (by rw [val_replicate]; simp [val])
  refine ⟨T', cy', r', g1, g2, g3, g4, g8, eq_dg' (g6.set _ (by omega)) (by simpa using g5) ?_⟩
  have := val_set (w := cy' % 4294967296) g8
  rw [Nat.mod_eq_of_lt (show cy' < 4294967296 by omega)] at this ⊢
  omega

theorem sum_ret {B : Base} (hB : Std B) {la lb : PL} {a b : List Nat} (sa : SlW la a) (sb : SlW lb b) (da : Dig a) (db : Dig b) (ha : a.length < 1000000000000) (hb : b.length < 1000000000000) :
    Ret B 179 [.one la, .one lb] (.one (.lst (wsP (wordsOf (val a + val b))))) := by
  have hv : ∀ {a b : List Nat}, Dig a → Dig b → b.length ≤ a.length → val a + val b < 4294967296 ^ (a.length + 1) := by
    intro a b da db hab
    have h1 := val_lt da
    have h2 := Nat.lt_of_lt_of_le (val_lt db) (pow_le_pow hab)
    rw [Nat.pow_succ]; omega
  by_cases hab : a.length < b.length
  · have h1 := trim_lst hB (ws := dg (b.length + 1) (val b + val a)) (by rw [dg_len]; omega)
    rw [trim_dg (hv db da (by omega)), Nat.add_comm (val b)] at h1
    refine Ret.of (hB.tab _ _ rfl) (((Evt.ge (b.length + 1)).and (h1.evt.and hB.evt)).mono fun E K ⟨hK, e1, hm⟩ => ?_)
    obtain ⟨T', cy', r', g1, g2, g3, g4, g5, g6⟩ := sum_fin (E := E) (K := K) sb sa db da (by omega) hb 177 (by omega)
    rw [Nat.add_comm (val b)] at g6
    have f1 : wrapF .i64 (.ofNat (b.length + 1)) = .ofNat (b.length + 1) := wrap_i64 (by omega)
    have f2 : 4 * (b.length + 1) ≤ lim := by unfold lim; omega
    have f3 : b.length + 1 ≤ 9223372036854775807 := by omega
    have f4 : b.length < b.length + 1 := by omega
    simp only [EVS, EVN, reduceIte, Nat.reduceEqDiff, Nat.reduceLeDiff, x179, sa.len, sb.len, hab, f1, f2, f3, f4, Nat.le_refl, wsD_rep, g1, g2, g3, g4, wsD_get g5, wsD_set, g6, htake _ (Nat.le_of_eq (dg_len (b.length + 1) (val a + val b))), wsD_len, dg_len, frz_wsD, ids_wsD, hm, MDS, e1]
  · have h1 := trim_lst hB (ws := dg (a.length + 1) (val a + val b)) (by rw [dg_len]; omega)
    rw [trim_dg (hv da db (by omega))] at h1
    refine Ret.of (hB.tab _ _ rfl) (((Evt.ge (a.length + 1)).and (h1.evt.and hB.evt)).mono fun E K ⟨hK, e1, hm⟩ => ?_)
    obtain ⟨T', cy', r', g1, g2, g3, g4, g5, g6⟩ := sum_fin (E := E) (K := K) sa sb da db (by omega) ha 177 (by omega)
    have f1 : wrapF .i64 (.ofNat (a.length + 1)) = .ofNat (a.length + 1) := wrap_i64 (by omega)
    have f2 : 4 * (a.length + 1) ≤ lim := by unfold lim; omega
    have f3 : a.length + 1 ≤ 9223372036854775807 := by omega
    have f4 : a.length < a.length + 1 := by omega
    simp only [EVS, EVN, reduceIte, Nat.reduceEqDiff, Nat.reduceLeDiff, x179, sa.len, sb.len, hab, f1, f2, f3, f4, Nat.le_refl, wsD_rep, g1, g2, g3, g4, wsD_get g5, wsD_set, g6, htake _ (Nat.le_of_eq (dg_len (a.length + 1) (val a + val b))), wsD_len, dg_len, frz_wsD, ids_wsD, hm, MDS, e1]

end Go.Proofs.YtidginchkjhobaaGreat

namespace Go.Proofs.YtidginchkjhobaaGreat
open Go.Ev Go.Num

theorem compare_loop {E : Oracle} {K : Nat} {la lb : PL} {a b : List Nat} (sa : SlW la a) (sb : SlW lb b) (da : Dig a) (db : Dig b) (hab : a.length = b.length) (hl : a.length < 1000000000000) : ∀ (n k : Nat) (H : List Blk), n < k → n ≤ a.length →
    ∃ ex T', loopK E K 0 [0, 1, 5] x188_1 k ⟨[(0, .one (.p la)), (1, .one (.p lb)), (5, .one (.p (.int .i64 (pI n))))], H⟩ = some (ex, ⟨T', H⟩) ∧
      ((val (a.take n) = val (b.take n) ∧ ex = .exit 0) ∨ (val (a.take n) < val (b.take n) ∧ ex = .ret ∧ getT T' 4 = some (.one (.p (.int .i64 (.negSucc 0))))) ∨ (val (b.take n) < val (a.take n) ∧ ex = .ret ∧ getT T' 4 = some (.one (.p (.int .i64 (.ofNat 1))))))
  | _, 0, _, h, _ => by omega
  | 0, k + 1, H, _, _ => by
    refine ⟨.exit 0, ?_⟩
    apply ex1
    · rw [loopK]
      simp only [EVS, EVN, reduceIte, Nat.reduceEqDiff, x188_1, pI]
      rfl
    · exact .inl ⟨rfl, rfl⟩
  | n + 1, k + 1, H, hk, hn => by
    obtain ⟨w, hw⟩ : ∃ w, a[n]? = some w := ⟨_, List.getElem?_eq_getElem (by omega)⟩
    obtain ⟨v, hv⟩ : ∃ v, b[n]? = some v := ⟨_, List.getElem?_eq_getElem (by omega)⟩
    have h1 := pred_i64 (n := n) (by omega)
    have ha : val (a.take n) < 4294967296 ^ n := by
      have := val_lt (ws := a.take n) (fun x hx => da x (List.mem_of_mem_take hx))
      rwa [List.length_take, Nat.min_eq_left (by omega)] at this
    have hb : val (b.take n) < 4294967296 ^ n := by
      have := val_lt (ws := b.take n) (fun x hx => db x (List.mem_of_mem_take hx))
      rwa [List.length_take, Nat.min_eq_left (by omega)] at this
    rw [val_take hw, val_take hv]
    by_cases e : w = v
    · subst e
      obtain ⟨ex, T', g1, g2⟩ := compare_loop sa sb da db hab hl n k H (by omega) (by omega)
      refine ⟨ex, T', ?_, g2.imp (fun h => ⟨by omega, h.2⟩) fun h => h.imp (fun h => ⟨by omega, h.2⟩) fun h => ⟨by omega, h.2⟩⟩
      rw [loopK]
      simp only [EVS, EVN, reduceIte, Nat.reduceEqDiff, x188_1, pI, Nat.zero_le, sa.idx hw, sb.idx hv, h1]
      exact g1
    · by_cases lt : w < v
      · have := Nat.mul_le_mul_right (4294967296 ^ n) (show w + 1 ≤ v from lt)
        rw [Nat.add_mul, Nat.one_mul] at this
        refine ⟨.ret, ?_⟩
        apply ex1
        · rw [loopK]
          simp only [EVS, EVN, reduceIte, Nat.reduceEqDiff, x188_1, pI, Nat.zero_le, sa.idx hw, sb.idx hv, e, lt]
          rfl
        · exact .inr (.inl ⟨by omega, rfl, by simp only [EVS, reduceIte, Nat.reduceEqDiff]⟩)
      · have := Nat.mul_le_mul_right (4294967296 ^ n) (show v + 1 ≤ w by omega)
        rw [Nat.add_mul, Nat.one_mul] at this
        refine ⟨.ret, ?_⟩
        apply ex1
        · rw [loopK]
          simp only [EVS, EVN, reduceIte, Nat.reduceEqDiff, x188_1, pI, Nat.zero_le, sa.idx hw, sb.idx hv, e, lt]
          rfl
        · exact .inr (.inr ⟨by omega, rfl, by simp only [EVS, reduceIte]⟩)

/-- How two numbers stand. -/
def cmpI (m n : Nat) : Int := if m < n then .negSucc 0 else if n < m then .ofNat 1 else .ofNat 0

theorem compare_ret {B : Base} (hB : Std B) {la lb : PL} {a b : List Nat} (sa : SlW la a) (sb : SlW lb b) (da : Dig a) (db : Dig b) (ca : Canon a) (cb : Canon b) (ha : a.length < 1000000000000) (hb : b.length < 1000000000000) :
    Ret B 188 [.one la, .one lb] (.one (.int .i64 (cmpI (val a) (val b)))) := by
  refine Ret.of (hB.tab _ _ rfl) ((Evt.ge (a.length + 1)).mono fun E K hK => ?_)
  by_cases hab : a.length = b.length
  · obtain ⟨ex, T', g1, g2⟩ := compare_loop (E := E) (K := K) sa sb da db hab ha a.length K [] (by omega) (Nat.le_refl _)
    rw [List.take_length, hab, List.take_length] at g2
    rw [hab] at g1
    have h1 := pred_i64 (n := b.length) (by omega)
    unfold cmpI
    rcases g2 with ⟨e, rfl⟩ | ⟨e, rfl, g2⟩ | ⟨e, rfl, g2⟩
    · simp only [EVS, EVN, reduceIte, Nat.reduceEqDiff, Nat.reduceLeDiff, x188, sa.len, sb.len, hab, h1, g1, e, Nat.lt_irrefl]
    · simp only [EVS, EVN, reduceIte, Nat.reduceEqDiff, Nat.reduceLeDiff, x188, sa.len, sb.len, hab, h1, g1, e, g2]
    · simp only [EVS, EVN, reduceIte, Nat.reduceEqDiff, Nat.reduceLeDiff, x188, sa.len, sb.len, hab, h1, g1, e, g2, Nat.lt_asymm e]
  · have lt : ∀ {a b : List Nat}, Dig a → Canon b → a.length < b.length → val a < val b := by
      intro a b da cb h
      have h1 := Nat.lt_of_lt_of_le (val_lt da) (pow_le_pow (Nat.le_of_lt_succ (by omega : a.length < b.length - 1 + 1)))
      exact Nat.lt_of_lt_of_le h1 (canon_ge cb (by omega))
    unfold cmpI
    by_cases h : a.length < b.length
    · have e := lt da cb h
      simp only [EVS, EVN, reduceIte, Nat.reduceEqDiff, Nat.reduceLeDiff, x188, sa.len, sb.len, hab, h, e]
    · have e := lt db ca (by omega)
      simp only [EVS, EVN, reduceIte, Nat.reduceEqDiff, Nat.reduceLeDiff, x188, sa.len, sb.len, hab, h, e, Nat.lt_asymm e]

end Go.Proofs.YtidginchkjhobaaGreat

namespace Go.Proofs.YtidginchkjhobaaGreat
open Go.Ev Go.Num

theorem diff_loop {E : Oracle} {K : Nat} {la lb : PL} {a b : List Nat} (sa : SlW la a) (sb : SlW lb b) (da : Dig a) (db : Dig b) (hab : b.length ≤ a.length) (hl : a.length < 1000000000000) (t : Nat) :
    ∀ (d i k : Nat) (r : List Nat) (bw : Nat), i + d = a.length → d < k → r.length = a.length → Dig r → bw < 2 → (∀ j, i ≤ j → j < a.length → r[j]? = some 0) → val r + val (b.take i) = val (a.take i) + bw * 4294967296 ^ i →
    ∃ T' r' bw', loopK E K 0 [0, 1, 5, 6, 13, 14] x180_1 k ⟨[(0, .one (.p la)), (1, .one (.p lb)), (5, .one (.own 0 0 0 a.length)), (6, .one (.p (.int .u64 (.ofNat bw)))), (13, .one (.p (.int .i64 (.ofNat a.length)))), (14, .one (.p (.int .i64 (.ofNat i))))], [⟨false, 0, 1, wsD r, false, t⟩]⟩ = some (.exit 0, ⟨T', [⟨false, 0, 1, wsD r', false, t⟩]⟩) ∧
      getT T' 5 = some (.one (.own 0 0 0 a.length)) ∧ r'.length = a.length ∧ Dig r' ∧ val r' + val b = val a + bw' * 4294967296 ^ a.length
  | _, _, 0, _, _, _, h, _, _, _, _, _ => by omega
  | 0, i, k + 1, r, bw, hi, _, h1, h2, h3, h4, h5 => by
    obtain rfl : i = a.length := by omega
    rw [List.take_length, List.take_of_length_le hab] at h5
    have : ∃ T', loopK E K 0 [0, 1, 5, 6, 13, 14] x180_1 (k + 1) ⟨[(0, .one (.p la)), (1, .one (.p lb)), (5, .one (.own 0 0 0 a.length)), (6, .one (.p (.int .u64 (.ofNat bw)))), (13, .one (.p (.int .i64 (.ofNat a.length)))), (14, .one (.p (.int .i64 (.ofNat a.length))))], [⟨false, 0, 1, wsD r, false, t⟩]⟩ = some (.exit 0, ⟨T', [⟨false, 0, 1, wsD r, false, t⟩]⟩) ∧
        getT T' 5 = some (.one (.own 0 0 0 a.length)) := by
      apply ex1
      · rw [loopK]
        simp only [EVS, EVN, reduceIte, Nat.reduceEqDiff, x180_1, Nat.lt_irrefl]
        rfl
      · simp only [EVS, reduceIte, Nat.reduceEqDiff]
    obtain ⟨T', g1, g2⟩ := this
    exact ⟨T', r, bw, g1, g2, h1, h2, h5⟩
  | d + 1, i, k + 1, r, bw, hi, hk, h1, h2, h3, h4, h5 => by
    obtain ⟨w, hw⟩ : ∃ w, a[i]? = some w := ⟨_, List.getElem?_eq_getElem (by omega)⟩
    have hlt : i < a.length := by omega
    have hw2 := da.get hw
    have hr := h4 i (Nat.le_refl _) (by omega)
    have f1 : w % 18446744073709551616 = w := Nat.mod_eq_of_lt (by omega)
    have f3 : wrapF .i64 (.ofNat (i + 1)) = .ofNat (i + 1) := wrap_i64 (by omega)
    obtain ⟨d1, e1, p1⟩ : ∃ d1, wrapF .u64 (.ofNat w - .ofNat bw) = .ofNat d1 ∧ d1 = (w + (18446744073709551616 - bw)) % 18446744073709551616 := ⟨_, sub_u64 (by omega), rfl⟩
    by_cases hib : i < b.length
    · obtain ⟨v, hv⟩ : ∃ v, b[i]? = some v := ⟨_, List.getElem?_eq_getElem hib⟩
      have hv2 := db.get hv
      have f5 : v % 18446744073709551616 = v := Nat.mod_eq_of_lt (by omega)
      obtain ⟨d2, e2, p2⟩ : ∃ d2, wrapF .u64 (.ofNat d1 - .ofNat v) = .ofNat d2 ∧ d2 = (d1 + (18446744073709551616 - v)) % 18446744073709551616 := ⟨_, sub_u64 (by omega), rfl⟩
      have rel : d2 % 4294967296 + bw + v = w + 4294967296 * (d2 / 9223372036854775808) := by omega
      obtain ⟨T', r', bw', g1, g2⟩ := diff_loop sa sb da db hab hl t d (i + 1) k (r.set i (d2 % 4294967296)) (d2 / 9223372036854775808) (by omega) (by omega) (by simpa using h1) (h2.set i (by omega)) (by omega)
        (fun j hj1 hj2 => by rw [List.getElem?_set_ne (by omega)]; exact h4 j (by omega) hj2) (by
          have e1 := val_set (w := d2 % 4294967296) hr
          rw [val_take hw, val_take hv, Nat.pow_succ]
          generalize d2 % 4294967296 = x at *
          generalize d2 / 9223372036854775808 = y at *
          generalize 4294967296 ^ i = p at *
          clear p1 p2
          grind)
      refine ⟨T', r', bw', ?_, g2⟩
      rw [loopK]
      simp only [EVS, EVN, reduceIte, Nat.reduceEqDiff, Nat.reduceLeDiff, x180_1, hlt, sa.idx hw, sb.len, hib, sb.idx hv, f1, f3, f5, e1, e2, wsD_get hr, wsD_set]
      exact g1
    · have rel : d1 % 4294967296 + bw = w + 4294967296 * (d1 / 9223372036854775808) := by omega
      obtain ⟨T', r', bw', g1, g2⟩ := diff_loop sa sb da db hab hl t d (i + 1) k (r.set i (d1 % 4294967296)) (d1 / 9223372036854775808) (by omega) (by omega) (by simpa using h1) (h2.set i (by omega)) (by omega)
        (fun j hj1 hj2 => by rw [List.getElem?_set_ne (by omega)]; exact h4 j (by omega) hj2) (by
          have e1 := val_set (w := d1 % 4294967296) hr
          rw [val_take hw, List.take_of_length_le (show b.length ≤ i + 1 by omega), Nat.pow_succ]
          rw [List.take_of_length_le (show b.length ≤ i by omega)] at h5
          generalize d1 % 4294967296 = x at *
          generalize d1 / 9223372036854775808 = y at *
          generalize 4294967296 ^ i = p at *
          clear p1
          grind)
      refine ⟨T', r', bw', ?_, g2⟩
      rw [loopK]
      simp only [EVS, EVN, reduceIte, Nat.reduceEqDiff, Nat.reduceLeDiff, x180_1, hlt, sa.idx hw, sb.len, hib, f1, f3, e1, wsD_get hr, wsD_set]
      exact g1

theorem diff_ret {B : Base} (hB : Std B) {la lb : PL} {a b : List Nat} (sa : SlW la a) (sb : SlW lb b) (da : Dig a) (db : Dig b) (hab : b.length ≤ a.length) (hl : a.length < 1000000000000) (hv : val b ≤ val a) :
    Ret B 180 [.one la, .one lb] (.one (.lst (wsP (wordsOf (val a - val b))))) := by
  have hva := val_lt da
  have h1 := trim_lst hB (ws := dg a.length (val a - val b)) (by rw [dg_len]; omega)
  rw [trim_dg (by omega)] at h1
  refine Ret.of (hB.tab _ _ rfl) (((Evt.ge (a.length + 1)).and (h1.evt.and hB.evt)).mono fun E K ⟨hK, e1, hm⟩ => ?_)
  obtain ⟨T', r', bw', g1, g2, g3, g4, g5⟩ := diff_loop (E := E) (K := K) sa sb da db hab hl 177 a.length 0 K (List.replicate a.length 0) 0 (by omega) (by omega) (by simp) (Dig.replicate _) (by decide)
    (fun j _ hj => by rw [List.getElem?_replicate, if_pos (by omega)]) (by rw [val_replicate]; simp [val])
  have hr' : r' = dg a.length (val a - val b) := by
    have := val_lt g4
    rw [g3] at this
    have hb0 : bw' = 0 := by
      rcases Nat.eq_zero_or_pos bw' with h | h
      · exact h
      · have := Nat.mul_le_mul_right (4294967296 ^ a.length) h
        omega
    subst hb0
    exact eq_dg' g4 g3 (by omega)
  subst hr'
  have f2 : 4 * a.length ≤ lim := by unfold lim; omega
  have f3 : a.length ≤ 9223372036854775807 := by omega
  simp only [EVS, EVN, reduceIte, Nat.reduceEqDiff, Nat.reduceLeDiff, x180, sa.len, f2, f3, Nat.le_refl, wsD_rep, g1, g2, htake _ (Nat.le_of_eq (dg_len a.length (val a - val b))), wsD_len, dg_len, frz_wsD, ids_wsD, hm, MDS, e1]

theorem mul_lt64 {x y z u : Nat} (hx : x < 4294967296) (hy : y < 4294967296) (hz : z < 4294967296) (hu : u < 4294967296) : x * y + z + u < 18446744073709551616 := by
  have := Nat.mul_le_mul (Nat.le_sub_one_of_lt hx) (Nat.le_sub_one_of_lt hy)
  omega

theorem prod_in {E : Oracle} {K : Nat} {la lb : PL} {b : List Nat} (sb : SlW lb b) (db : Dig b) {na : Nat} (hl : na + b.length < 1000000000000) (t : Nat) {i x : Nat} (hia : i < na) (hx : x < 4294967296) (V : Nat) :
    ∀ (d j k : Nat) (r : List Nat) (cy : Nat), j + d = b.length → d < k → r.length = na + b.length → Dig r → cy < 4294967296 → (∀ p, i + b.length ≤ p → p < na + b.length → r[p]? = some 0) → val r + cy * 4294967296 ^ (i + j) + x * 4294967296 ^ (i + j) * val (b.drop j) = V →
    ∃ T' r' cy', loopK E K 0 [0, 1, 5, 6, 7, 8, 18, 19, 28, 29] x181_1 k ⟨[(0, .one (.p la)), (1, .one (.p lb)), (5, .one (.own 0 0 0 (na + b.length))), (6, .one (.p (.int .i64 (.ofNat i)))), (7, .one (.p (.int .u64 (.ofNat cy)))), (8, .one (.p (.int .u64 (.ofNat x)))), (18, .one (.p (.int .i64 (.ofNat na)))), (19, .one (.p (.int .i64 (.ofNat i)))), (28, .one (.p (.int .i64 (.ofNat b.length)))), (29, .one (.p (.int .i64 (.ofNat j))))], [⟨false, 0, 1, wsD r, false, t⟩]⟩ = some (.exit 2, ⟨T', [⟨false, 0, 1, wsD r', false, t⟩]⟩) ∧
      (getT T' 0 = some (.one (.p la)) ∧ getT T' 1 = some (.one (.p lb)) ∧ getT T' 5 = some (.one (.own 0 0 0 (na + b.length))) ∧ getT T' 6 = some (.one (.p (.int .i64 (.ofNat i)))) ∧ getT T' 7 = some (.one (.p (.int .u64 (.ofNat cy')))) ∧ getT T' 18 = some (.one (.p (.int .i64 (.ofNat na)))) ∧ getT T' 19 = some (.one (.p (.int .i64 (.ofNat i))))) ∧
      r'.length = na + b.length ∧ Dig r' ∧ cy' < 4294967296 ∧ (∀ p, i + b.length ≤ p → p < na + b.length → r'[p]? = some 0) ∧ val r' + cy' * 4294967296 ^ (i + b.length) = V
  | _, _, 0, _, _, _, h, _, _, _, _, _ => by omega
  | 0, j, k + 1, r, cy, hi, _, h1, h2, h3, h4, h5 => by
    obtain rfl : j = b.length := by omega
    have : ∃ T', loopK E K 0 [0, 1, 5, 6, 7, 8, 18, 19, 28, 29] x181_1 (k + 1) ⟨[(0, .one (.p la)), (1, .one (.p lb)), (5, .one (.own 0 0 0 (na + b.length))), (6, .one (.p (.int .i64 (.ofNat i)))), (7, .one (.p (.int .u64 (.ofNat cy)))), (8, .one (.p (.int .u64 (.ofNat x)))), (18, .one (.p (.int .i64 (.ofNat na)))), (19, .one (.p (.int .i64 (.ofNat i)))), (28, .one (.p (.int .i64 (.ofNat b.length)))), (29, .one (.p (.int .i64 (.ofNat b.length))))], [⟨false, 0, 1, wsD r, false, t⟩]⟩ = some (.exit 2, ⟨T', [⟨false, 0, 1, wsD r, false, t⟩]⟩) ∧
        (getT T' 0 = some (.one (.p la)) ∧ getT T' 1 = some (.one (.p lb)) ∧ getT T' 5 = some (.one (.own 0 0 0 (na + b.length))) ∧ getT T' 6 = some (.one (.p (.int .i64 (.ofNat i)))) ∧ getT T' 7 = some (.one (.p (.int .u64 (.ofNat cy)))) ∧ getT T' 18 = some (.one (.p (.int .i64 (.ofNat na)))) ∧ getT T' 19 = some (.one (.p (.int .i64 (.ofNat i))))) := by
      apply ex1
      · rw [loopK]
        simp only [EVS, EVN, reduceIte, Nat.reduceEqDiff, x181_1, Nat.lt_irrefl]
        rfl
      · simp only [EVS, reduceIte, Nat.reduceEqDiff, and_self]
    obtain ⟨T', g1, g2⟩ := this
    refine ⟨T', r, cy, g1, g2, h1, h2, h3, h4, ?_⟩
    rw [List.drop_length] at h5
    simpa [val] using h5
  | d + 1, j, k + 1, r, cy, hi, hk, h1, h2, h3, h4, h5 => by
    have hlt : j < b.length := by omega
    obtain ⟨v, hv⟩ : ∃ v, b[j]? = some v := ⟨_, List.getElem?_eq_getElem hlt⟩
    obtain ⟨u, hu⟩ : ∃ u, r[i + j]? = some u := ⟨_, List.getElem?_eq_getElem (by omega)⟩
    have hv2 := db.get hv
    have hu2 := h2.get hu
    have hb := mul_lt64 hx hv2 hu2 h3
    have f1 : v % 18446744073709551616 = v := Nat.mod_eq_of_lt (by omega)
    have f2 : u % 18446744073709551616 = u := Nat.mod_eq_of_lt (by omega)
    have f3 : (x * v) % 18446744073709551616 = x * v := Nat.mod_eq_of_lt (by omega)
    have f4 : (x * v + u) % 18446744073709551616 = x * v + u := Nat.mod_eq_of_lt (by omega)
    have f5 : (x * v + u + cy) % 18446744073709551616 = x * v + u + cy := Nat.mod_eq_of_lt hb
    have f6 : wrapF .i64 (.ofNat (i + j)) = .ofNat (i + j) := wrap_i64 (by omega)
    have f7 : wrapF .i64 (.ofNat (j + 1)) = .ofNat (j + 1) := wrap_i64 (by omega)
    have f8 : i + j < na + b.length := by omega
    obtain ⟨T', r', cy', g1, g2⟩ := prod_in (la := la) sb db hl t hia hx V d (j + 1) k (r.set (i + j) ((x * v + u + cy) % 4294967296)) ((x * v + u + cy) / 4294967296) (by omega) (by omega) (by simpa using h1) (h2.set _ (by omega)) (by omega)
      (fun p hp1 hp2 => by rw [List.getElem?_set_ne (by omega)]; exact h4 p hp1 hp2) (by
        have e1 := val_set (w := (x * v + u + cy) % 4294967296) hu
        rw [val_drop hv] at h5
        have e2 : (x * v + u + cy) % 4294967296 + 4294967296 * ((x * v + u + cy) / 4294967296) = x * v + u + cy := Nat.mod_add_div _ _
        rw [show i + (j + 1) = (i + j) + 1 by omega, Nat.pow_succ]
        generalize (x * v + u + cy) % 4294967296 = y at *
        generalize (x * v + u + cy) / 4294967296 = z at *
        generalize 4294967296 ^ (i + j) = p at *
        clear hb f3 f4 f5 f1 f2
        grind)
    refine ⟨T', r', cy', ?_, g2⟩
    rw [loopK]
    simp only [EVS, EVN, reduceIte, Nat.reduceEqDiff, Nat.reduceLeDiff, x181_1, hlt, sb.idx hv, f1, f2, f3, f4, f5, f6, f7, f8, wsD_get hu, wsD_set]
    exact g1

end Go.Proofs.YtidginchkjhobaaGreat

namespace Go.Proofs.YtidginchkjhobaaGreat
open Go.Ev Go.Num

theorem prod_out {E : Oracle} {K : Nat} {la lb : PL} {a b : List Nat} (sa : SlW la a) (sb : SlW lb b) (da : Dig a) (db : Dig b) (hl : a.length + b.length < 1000000000000) (hK : b.length < K) (t : Nat) :
    ∀ (d i k : Nat) (r : List Nat), i + d = a.length → d < k → r.length = a.length + b.length → Dig r → (∀ p, i + b.length ≤ p → p < a.length + b.length → r[p]? = some 0) → val r = val (a.take i) * val b →
    ∃ T' r', loopK E K 0 [0, 1, 5, 18, 19] x181_2 k ⟨[(0, .one (.p la)), (1, .one (.p lb)), (5, .one (.own 0 0 0 (a.length + b.length))), (18, .one (.p (.int .i64 (.ofNat a.length)))), (19, .one (.p (.int .i64 (.ofNat i))))], [⟨false, 0, 1, wsD r, false, t⟩]⟩ = some (.exit 0, ⟨T', [⟨false, 0, 1, wsD r', false, t⟩]⟩) ∧
      getT T' 5 = some (.one (.own 0 0 0 (a.length + b.length))) ∧ r'.length = a.length + b.length ∧ Dig r' ∧ val r' = val a * val b
  | _, _, 0, _, _, h, _, _, _, _ => by omega
  | 0, i, k + 1, r, hi, _, h1, h2, h3, h4 => by
    obtain rfl : i = a.length := by omega
    rw [List.take_length] at h4
    have : ∃ T', loopK E K 0 [0, 1, 5, 18, 19] x181_2 (k + 1) ⟨[(0, .one (.p la)), (1, .one (.p lb)), (5, .one (.own 0 0 0 (a.length + b.length))), (18, .one (.p (.int .i64 (.ofNat a.length)))), (19, .one (.p (.int .i64 (.ofNat a.length))))], [⟨false, 0, 1, wsD r, false, t⟩]⟩ = some (.exit 0, ⟨T', [⟨false, 0, 1, wsD r, false, t⟩]⟩) ∧ getT T' 5 = some (.one (.own 0 0 0 (a.length + b.length))) := by
      apply ex1
      · rw [loopK]
        simp only [EVS, EVN, reduceIte, Nat.reduceEqDiff, x181_2, Nat.lt_irrefl]
        rfl
      · simp only [EVS, reduceIte, Nat.reduceEqDiff]
    obtain ⟨T', g1, g2⟩ := this
    exact ⟨T', r, g1, g2, h1, h2, h4⟩
  | d + 1, i, k + 1, r, hi, hk, h1, h2, h3, h4 => by
    have hlt : i < a.length := by omega
    obtain ⟨x, hx⟩ : ∃ x, a[i]? = some x := ⟨_, List.getElem?_eq_getElem hlt⟩
    have hx2 := da.get hx
    obtain ⟨T1, r1, cy, q1, ⟨q2, q3, q4, q5, q6, q7, q8⟩, q9, q10, q11, q12, q13⟩ := prod_in (E := E) (K := K) (la := la) sb db hl t hlt hx2 (val r + x * 4294967296 ^ i * val b) b.length 0 K r 0 (by omega) hK h1 h2 (by decide) h3 (by simp)
    have hz := q12 (i + b.length) (Nat.le_refl _) (by omega)
    obtain ⟨T', r', g1, g2⟩ := prod_out sa sb da db hl hK t d (i + 1) k (r1.set (i + b.length) (cy % 4294967296)) (by omega) (by omega) (by simpa using q9) (q10.set _ (by omega))
      (fun p hp1 hp2 => by rw [List.getElem?_set_ne (by omega)]; exact q12 p (by omega) hp2) (by
        have e1 := val_set (w := cy % 4294967296) hz
        rw [Nat.mod_eq_of_lt q11] at e1 ⊢
        rw [val_take hx, Nat.add_mul, ← h4]
        have : x * 4294967296 ^ i * val b = x * 4294967296 ^ i * val b := rfl
        omega)
    refine ⟨T', r', ?_, g2⟩
    have f1 : x % 18446744073709551616 = x := Nat.mod_eq_of_lt (by omega)
    have f2 : wrapF .i64 (.ofNat (i + 1)) = .ofNat (i + 1) := wrap_i64 (by omega)
    have f3 : wrapF .i64 (.ofNat (i + b.length)) = .ofNat (i + b.length) := wrap_i64 (by omega)
    have f4 : i + b.length < a.length + b.length := by omega
    rw [loopK]
    simp only [EVS, EVN, reduceIte, Nat.reduceEqDiff, Nat.reduceLeDiff, x181_2, hlt, sa.idx hx, sb.len, f1, f2, f3, f4, q1, q2, q3, q4, q5, q6, q7, q8, wsD_get hz, wsD_set]
    exact g1

theorem prod_ret {B : Base} (hB : Std B) {la lb : PL} {a b : List Nat} (sa : SlW la a) (sb : SlW lb b) (da : Dig a) (db : Dig b) (hl : a.length + b.length < 1000000000000) :
    Ret B 181 [.one la, .one lb] (.one (.lst (wsP (wordsOf (val a * val b))))) := by
  have hva := val_lt da
  have hvb := val_lt db
  have h1 := trim_lst hB (ws := dg (a.length + b.length) (val a * val b)) (by rw [dg_len]; omega)
  rw [trim_dg (by rw [Nat.pow_add]; exact Nat.mul_lt_mul'' hva hvb)] at h1
  refine Ret.of (hB.tab _ _ rfl) (((Evt.ge (a.length + b.length + 1)).and (h1.evt.and hB.evt)).mono fun E K ⟨hK, e1, hm⟩ => ?_)
  obtain ⟨T', r', g1, g2, g3, g4, g5⟩ := prod_out (E := E) (K := K) sa sb da db hl (by omega) 177 a.length 0 K (List.replicate (a.length + b.length) 0) (by omega) (by omega) (by simp) (Dig.replicate _)
    (fun j _ hj => by rw [List.getElem?_replicate, if_pos (by omega)]) (by rw [val_replicate]; simp [val])
  obtain rfl := eq_dg' g4 g3 g5
  have f1 : wrapF .i64 (.ofNat (a.length + b.length)) = .ofNat (a.length + b.length) := wrap_i64 (by omega)
  have f2 : 4 * (a.length + b.length) ≤ lim := by unfold lim; omega
  have f3 : a.length + b.length ≤ 9223372036854775807 := by omega
  simp only [EVS, EVN, reduceIte, Nat.reduceEqDiff, Nat.reduceLeDiff, x181, sa.len, sb.len, f1, f2, f3, Nat.le_refl, wsD_rep, g1, g2, htake _ (Nat.le_of_eq (dg_len (a.length + b.length) (val a * val b))), wsD_len, dg_len, frz_wsD, ids_wsD, hm, MDS, e1]

/-- What package integer makes of a sign and words. -/
theorem signed_ret {B : Base} (hB : Std B) {l : PL} {ws : List Nat} (neg : Bool) (s : SlW l ws) (d : Dig ws) (hl : ws.length < 1000000000000) : ∃ c, Ret B 172 [.one (.bool neg), .one l] (.agg c) ∧ IsI c (if neg then -(val ws : Int) else val ws) := by
  obtain ⟨r, h1, h2⟩ := trim_ret hB s (by omega)
  rw [trim_words d rfl] at h2
  by_cases h0 : val ws = 0
  · refine ⟨[.bool false, .nilS], Ret.of (hB.tab _ _ rfl) ((h1.evt.and hB.evt).mono fun E K ⟨e1, hm⟩ => ?_), .nilS, ?_, ?_⟩
    · rw [h0, words_zero] at h2
      simp only [EVS, EVN, reduceIte, Nat.reduceEqDiff, Nat.reduceLeDiff, x172, hm, MDS, e1, h2.len]
    · rw [h0]; cases neg <;> rfl
    · rw [h0]; cases neg <;> simp only [Bool.false_eq_true, if_false, if_true] <;> exact IsW.zero
  · have hn : (wordsOf (val ws)).length ≠ 0 := by rw [words_pos h0]; simp
    refine ⟨[.bool neg, r], Ret.of (hB.tab _ _ rfl) ((h1.evt.and hB.evt).mono fun E K ⟨e1, hm⟩ => ?_), r, ?_, ?_⟩
    · simp only [EVS, EVN, reduceIte, Nat.reduceEqDiff, Nat.reduceLeDiff, x172, hm, MDS, e1, h2.len, hn]
    · cases neg
      · simp only [Bool.false_eq_true, if_false]; rw [decide_eq_false (by omega)]
      · simp only [if_true]; rw [decide_eq_true (by omega)]
    · have : (if neg then -(val ws : Int) else val ws).natAbs = val ws := by cases neg <;> simp
      rw [this]; exact h2

end Go.Proofs.YtidginchkjhobaaGreat

namespace Go.Proofs.YtidginchkjhobaaGreat
open Go.Ev Go.Num

theorem clone_ret {B : Base} (hB : Std B) {l : PL} {ws : List Nat} (s : SlW l ws) (hl : ws.length < 1000000000000) : ∃ r, Ret B 173 [.one l] (.one r) ∧ SlW r ws := by
  have hc : ∀ h, chunksOf h (.p l) = some (wsD ws, []) := fun h => by rw [Sl.chunks s, wsP_map]
  by_cases h0 : ws = []
  · subst h0
    refine ⟨.nilS, Ret.of (hB.tab _ _ rfl) (Evt.of fun K n => ?_), .nil⟩
    have ha : ∀ e n ids, appendNil e 1 4 n (wsD []) ids = some ⟨.one (.p .nilS), [], [], ids⟩ := fun _ _ _ => rfl
    simp only [EVS, EVN, reduceIte, Nat.reduceEqDiff, Nat.reduceLeDiff, x173, hc, ha]
    simp only [wsD, EVS]
    simp only [show ∀ e n ids, appendNil e 1 4 n [] ids = some ⟨.one (.p .nilS), [], [], ids⟩ from fun _ _ _ => rfl, EVS, reduceIte, Nat.reduceEqDiff]
  · refine ⟨.lst (wsP ws), Ret.of (hB.tab _ _ rfl) (Evt.of fun K n => ?_), .lst⟩
    have ha : (wsD ws).all (fun c => decide (c.length = 1)) = true := by
      have := all_wsD ws
      rw [List.all_eq_true] at this ⊢
      intro x hx; have := this x hx; rwa [beq_dec] at this
    simp only [EVS, EVN, reduceIte, Nat.reduceEqDiff, Nat.reduceLeDiff, x173, hc, ha, appNil_ws h0 hl, htake ws (Nat.le_refl _), wsD_len, frz_wsD, Nat.le_refl]

theorem words_ret {B : Base} (hB : Std B) {m : Nat} (hm : m < 18446744073709551616) : Ret B 177 [.one (.int .u64 (.ofNat m))] (.one (.lst (wsP (wordsOf m)))) := by
  have h1 : Ret B 175 [.one (.lst [[.int .u32 (.ofNat (m % 4294967296))], [.int .u32 (.ofNat (m / 4294967296 % 4294967296))]])] (.one (.lst (wsP (wordsOf m)))) := by
    have := trim_lst hB (ws := [m % 4294967296, m / 4294967296 % 4294967296]) (by simp)
    rw [trim_words (n := m) (Dig.mk (by omega) (Dig.mk (by omega) Dig.nil)) (by simp only [val]; omega)] at this
    exact this
  refine Ret.of (hB.tab _ _ rfl) ((h1.evt.and hB.evt).mono fun E K ⟨e1, hm⟩ => ?_)
  simp only [EVS, EVN, reduceIte, Nat.reduceEqDiff, Nat.reduceLeDiff, Nat.reduceLT, Nat.reduceAdd, x177, hm, MDS, e1]

theorem of_ret {B : Base} (hB : Std B) {m : Nat} (hm : m < 9223372036854775808) : ∃ c, Ret B 155 [.one (.int .i64 (.ofNat m))] (.agg c) ∧ IsI c m := by
  have h1 := words_ret hB (m := m) (by omega)
  have hlen : (wordsOf m).length < 1000000000000 := by
    rcases Nat.lt_or_ge (wordsOf m).length 3 with h | h
    · omega
    · have := canon_ge (words_canon m) (by omega)
      rw [val_words] at this
      have := Nat.le_trans (pow_le_pow (show 2 ≤ (wordsOf m).length - 1 by omega)) this
      simp at this; omega
  obtain ⟨c, h2, h3⟩ := signed_ret hB false (l := .lst (wsP (wordsOf m))) .lst (words_dig m) hlen
  rw [val_words] at h3
  refine ⟨c, Ret.of (hB.tab _ _ rfl) ((h1.evt.and (h2.evt.and hB.evt)).mono fun E K ⟨e1, e2, hm2⟩ => ?_), by simpa using h3⟩
  obtain ⟨l, rfl, -⟩ := h3
  have f1 : m % 18446744073709551616 = m := Nat.mod_eq_of_lt (by omega)
  simp only [EVS, EVN, reduceIte, Nat.reduceEqDiff, Nat.reduceLeDiff, Nat.reduceAdd, x155, f1, Nat.not_lt_zero, hm2, MDS, e1, e2]

theorem sign_ret {B : Base} (hB : Std B) {c : List PL} {z : Int} (hc : IsI c z) : Ret B 146 [.agg c] (.one (.int .i64 (sgn z))) := by
  obtain ⟨m, rfl, hm⟩ := hc
  refine Ret.of (hB.tab _ _ rfl) (Evt.of fun K n => ?_)
  unfold sgn
  by_cases h0 : z = 0
  · subst h0
    have := hm.len
    rw [show Int.natAbs 0 = 0 from rfl, words_zero] at this
    simp only [EVS, EVN, reduceIte, Nat.reduceEqDiff, Nat.reduceLeDiff, Nat.reduceAdd, x146, this]
  · have hn : (wordsOf z.natAbs).length ≠ 0 := by rw [Ne, words_len0]; omega
    by_cases h1 : z < 0
    · simp only [EVS, EVN, reduceIte, Nat.reduceEqDiff, Nat.reduceLeDiff, Nat.reduceAdd, x146, hm.len, hn, h0, h1]
    · simp only [EVS, EVN, reduceIte, Nat.reduceEqDiff, Nat.reduceLeDiff, Nat.reduceAdd, x146, hm.len, hn, h0, h1]

theorem isOne_ret {B : Base} (hB : Std B) {c : List PL} {z : Int} (hc : IsI c z) : Ret B 152 [.agg c] (.one (.bool (decide (z = 1)))) := by
  obtain ⟨m, rfl, hm⟩ := hc
  refine Ret.of (hB.tab _ _ rfl) (Evt.of fun K n => ?_)
  by_cases h1 : z < 0
  · have : z ≠ 1 := by omega
    simp only [EVS, EVN, reduceIte, Nat.reduceEqDiff, Nat.reduceLeDiff, Nat.reduceAdd, x152, h1, this]
  · by_cases h2 : (wordsOf z.natAbs).length = 1
    · obtain ⟨h3, h4⟩ := words_len.1 h2
      have hi : (wordsOf z.natAbs)[0]? = some z.natAbs := by rw [words_small h3 h4]; rfl
      have h5 : (z.natAbs = 1) = (z = 1) := by simp only [eq_iff_iff]; omega
      simp only [EVS, EVN, reduceIte, Nat.reduceEqDiff, Nat.reduceLeDiff, Nat.reduceAdd, x152, h1, hm.len, h2, hm.idx hi, h5]
    · have : z ≠ 1 := by
        rintro rfl
        exact h2 (by rw [words_len]; decide)
      simp only [EVS, EVN, reduceIte, Nat.reduceEqDiff, Nat.reduceLeDiff, Nat.reduceAdd, x152, h1, hm.len, h2, this]

end Go.Proofs.YtidginchkjhobaaGreat

namespace Go.Proofs.YtidginchkjhobaaGreat
open Go.Ev Go.Num

theorem leF_cmpI (m n : Nat) : leF (.ofNat 0) (cmpI m n) = decide (n ≤ m) := by
  unfold cmpI
  by_cases h : m < n
  · rw [if_pos h, decide_eq_false (by omega)]; rfl
  · rw [if_neg h, decide_eq_true (by omega)]
    split <;> rfl

theorem neg_ret {B : Base} (hB : Std B) {c : List PL} {z : Int} (hc : IsI c z) (hz : Sm z) : ∃ c', Ret B 147 [.agg c] (.agg c') ∧ IsI c' (-z) := by
  obtain ⟨m, rfl, hm⟩ := hc
  unfold Sm at hz
  obtain ⟨r, h1, h2⟩ := clone_ret hB hm (by omega)
  obtain ⟨c', h3, h4⟩ := signed_ret hB (!decide (z < 0)) h2 (words_dig _) (by omega)
  rw [val_words] at h4
  refine ⟨c', Ret.of (hB.tab _ _ rfl) ((h1.evt.and (h3.evt.and hB.evt)).mono fun E K ⟨e1, e2, hm2⟩ => ?_), ?_⟩
  · obtain ⟨l, rfl, -⟩ := h4
    simp (decide := true) only [EVS, EVN, reduceIte, Nat.reduceAdd, x147, hm2, MDS, e1, e2]
  · have : -z = (if (!decide (z < 0)) = true then -(z.natAbs : Int) else z.natAbs) := by
      by_cases h : z < 0
      · simp [h]; omega
      · simp [h]; omega
    rw [this]; exact h4

theorem mul_ret {B : Base} (hB : Std B) {c d : List PL} {x y : Int} (hc : IsI c x) (hd : IsI d y) (hx : Sm x) (hy : Sm y) : ∃ e, Ret B 156 [.agg c, .agg d] (.agg e) ∧ IsI e (x * y) := by
  obtain ⟨m, rfl, hm⟩ := hc
  obtain ⟨n, rfl, hn⟩ := hd
  unfold Sm at hx hy
  have h1 := prod_ret hB hm hn (words_dig _) (words_dig _) (by omega)
  rw [val_words, val_words] at h1
  have hlen : (wordsOf (x.natAbs * y.natAbs)).length < 1000000000000 := by
    have := words_mul_len x.natAbs y.natAbs
    omega
  obtain ⟨e, h2, h3⟩ := signed_ret hB (decide (x < 0) != decide (y < 0)) (l := .lst (wsP (wordsOf (x.natAbs * y.natAbs)))) .lst (words_dig _) hlen
  rw [val_words] at h3
  refine ⟨e, Ret.of (hB.tab _ _ rfl) ((h1.evt.and (h2.evt.and hB.evt)).mono fun E K ⟨e1, e2, hm2⟩ => ?_), ?_⟩
  · obtain ⟨l, rfl, -⟩ := h3
    have hq : ((decide (x < 0) == decide (y < 0)) != true) = (decide (x < 0) != decide (y < 0)) := by
      cases decide (x < 0) <;> cases decide (y < 0) <;> rfl
    simp (decide := true) only [EVS, EVN, reduceIte, Nat.reduceAdd, x156, hm2, MDS, e1, e2, hq]
  · have : x * y = (if (decide (x < 0) != decide (y < 0)) = true then -((x.natAbs * y.natAbs : Nat) : Int) else ((x.natAbs * y.natAbs : Nat) : Int)) := by
      rw [Int.natCast_mul]
      by_cases h : x < 0 <;> by_cases k : y < 0
      · simp only [h, k, decide_true, bne_self_eq_false, Bool.false_eq_true, if_false]
        rw [show (x.natAbs : Int) = -x by omega, show (y.natAbs : Int) = -y by omega]; grind
      · simp only [h, k, decide_true, decide_false, bne_iff_ne, ne_eq, Bool.true_eq_false, not_false_eq_true, if_true]
        rw [show (x.natAbs : Int) = -x by omega, show (y.natAbs : Int) = y by omega]; grind
      · simp only [h, k, decide_true, decide_false, bne_iff_ne, ne_eq, Bool.false_eq_true, not_false_eq_true, if_true]
        rw [show (x.natAbs : Int) = x by omega, show (y.natAbs : Int) = -y by omega]; grind
      · simp only [h, k, decide_false, bne_self_eq_false, Bool.false_eq_true, if_false]
        rw [show (x.natAbs : Int) = x by omega, show (y.natAbs : Int) = y by omega]
    rw [this]; exact h3

theorem add_ret {B : Base} (hB : Std B) {c d : List PL} {x y : Int} (hc : IsI c x) (hd : IsI d y) (hx : Sm x) (hy : Sm y) : ∃ e, Ret B 182 [.agg c, .agg d] (.agg e) ∧ IsI e (x + y) := by
  obtain ⟨m, rfl, hm⟩ := hc
  obtain ⟨n, rfl, hn⟩ := hd
  unfold Sm at hx hy
  by_cases hs : decide (x < 0) = decide (y < 0)
  · have h1 := sum_ret hB hm hn (words_dig _) (words_dig _) (by omega) (by omega)
    rw [val_words, val_words] at h1
    have hlen : (wordsOf (x.natAbs + y.natAbs)).length < 1000000000000 := by
      have := words_add_len x.natAbs y.natAbs
      omega
    obtain ⟨e, h2, h3⟩ := signed_ret hB (decide (x < 0)) (l := .lst (wsP (wordsOf (x.natAbs + y.natAbs)))) .lst (words_dig _) hlen
    rw [val_words] at h3
    refine ⟨e, Ret.of (hB.tab _ _ rfl) ((h1.evt.and (h2.evt.and hB.evt)).mono fun E K ⟨e1, e2, hm2⟩ => ?_), ?_⟩
    · obtain ⟨l, rfl, -⟩ := h3
      rw [← hs]
      have hq : (decide (x < 0) == decide (x < 0)) = true := beq_self_eq_true _
      simp (decide := true) only [EVS, EVN, reduceIte, Nat.reduceAdd, x182, hm2, MDS, e1, e2, hq]
    · have : x + y = (if decide (x < 0) = true then -((x.natAbs + y.natAbs : Nat) : Int) else ((x.natAbs + y.natAbs : Nat) : Int)) := by
        by_cases h : x < 0
        · have k : y < 0 := by simpa [h] using hs
          simp only [h, decide_true, if_true]; omega
        · have k : ¬ y < 0 := by simpa [h] using hs
          simp only [h, decide_false, Bool.false_eq_true, if_false]; omega
      rw [this]; exact h3
  · have hq : (decide (x < 0) == decide (y < 0)) = false := by simpa using hs
    have h0 := compare_ret hB hm hn (words_dig _) (words_dig _) (words_canon _) (words_canon _) (by omega) (by omega)
    rw [val_words, val_words] at h0
    have hxy : (x < 0 ∧ ¬ y < 0) ∨ (¬ x < 0 ∧ y < 0) := by
      by_cases h : x < 0 <;> by_cases k : y < 0 <;> simp [h, k] at hs ⊢
    by_cases hle : y.natAbs ≤ x.natAbs
    · have h1 := diff_ret hB hm hn (words_dig _) (words_dig _) (words_len_le hle) (by omega) (by rw [val_words, val_words]; exact hle)
      rw [val_words, val_words] at h1
      have hlen : (wordsOf (x.natAbs - y.natAbs)).length < 1000000000000 := by
        have := words_len_le (Nat.sub_le x.natAbs y.natAbs)
        omega
      obtain ⟨e, h2, h3⟩ := signed_ret hB (decide (x < 0)) (l := .lst (wsP (wordsOf (x.natAbs - y.natAbs)))) .lst (words_dig _) hlen
      rw [val_words] at h3
      refine ⟨e, Ret.of (hB.tab _ _ rfl) ((h0.evt.and (h1.evt.and (h2.evt.and hB.evt))).mono fun E K ⟨e0, e1, e2, hm2⟩ => ?_), ?_⟩
      · obtain ⟨l, rfl, -⟩ := h3
        simp (decide := true) only [EVS, EVN, reduceIte, Nat.reduceAdd, x182, hm2, MDS, e0, e1, e2, hq, leF_cmpI, hle]
      · have : x + y = (if decide (x < 0) = true then -((x.natAbs - y.natAbs : Nat) : Int) else ((x.natAbs - y.natAbs : Nat) : Int)) := by
          rcases hxy with ⟨h, k⟩ | ⟨h, k⟩
          · simp only [h, decide_true, if_true]; omega
          · simp only [h, decide_false, Bool.false_eq_true, if_false]; omega
        rw [this]; exact h3
    · have h1 := diff_ret hB hn hm (words_dig _) (words_dig _) (words_len_le (by omega)) (by omega) (by rw [val_words, val_words]; omega)
      rw [val_words, val_words] at h1
      have hlen : (wordsOf (y.natAbs - x.natAbs)).length < 1000000000000 := by
        have := words_len_le (Nat.sub_le y.natAbs x.natAbs)
        omega
      obtain ⟨e, h2, h3⟩ := signed_ret hB (decide (y < 0)) (l := .lst (wsP (wordsOf (y.natAbs - x.natAbs)))) .lst (words_dig _) hlen
      rw [val_words] at h3
      refine ⟨e, Ret.of (hB.tab _ _ rfl) ((h0.evt.and (h1.evt.and (h2.evt.and hB.evt))).mono fun E K ⟨e0, e1, e2, hm2⟩ => ?_), ?_⟩
      · obtain ⟨l, rfl, -⟩ := h3
        simp (decide := true) only [EVS, EVN, reduceIte, Nat.reduceAdd, x182, hm2, MDS, e0, e1, e2, hq, leF_cmpI, hle]
      · have : x + y = (if decide (y < 0) = true then -((y.natAbs - x.natAbs : Nat) : Int) else ((y.natAbs - x.natAbs : Nat) : Int)) := by
          rcases hxy with ⟨h, k⟩ | ⟨h, k⟩
          · simp only [k, decide_false, Bool.false_eq_true, if_false]; omega
          · simp only [k, decide_true, if_true]; omega
        rw [this]; exact h3

end Go.Proofs.YtidginchkjhobaaGreat
