/- The law SyzygyIs: the list that exchanges elements. -/
import Derived.Test.YtidginchkjhobaaGreatMade
namespace Go.Proofs.YtidginchkjhobaaGreat
open Go.Ev Go.Num

/-- What the law's loop meets. -/
inductive SylR (E : Oracle) (qs : List PL) (ls : List PL) (n : Nat) : Nat → List PL → List PL → Prop
  | done {ss : List PL} : SylR E qs ls n n ss ss
  | skip {i : Nat} {ss out : List PL} (hi : i < n) (hj : (i + 1) % n = i) (h : SylR E qs ls n (i + 1) ss out) : SylR E qs ls n i ss out
  | step {i j : Nat} {ss out : List PL} {q p li lj si sj b1 s1 b2 s2 : PL} (hi : i < n) (hj : (i + 1) % n = j) (hij : j ≠ i) (hq : qs[i]? = some q) (hli : ls[i]? = some li) (hlj : ls[j]? = some lj) (hsi : ss[i]? = some si) (hsj : ss[j]? = some sj)
      (h1 : E.pure 9 [.agg [q]] = some (.one p)) (h2 : E.pure 11 [.one p, .one lj] = some (.one b1)) (h3 : E.pure 10 [.one si, .one b1] = some (.one s1))
      (h4 : E.pure 11 [.one p, .one li] = some (.one b2)) (h5 : E.pure 12 [.one sj, .one b2] = some (.one s2)) (h : SylR E qs ls n (i + 1) ((ss.set i s1).set j s2) out) : SylR E qs ls n i ss out

theorem SylR.le {E : Oracle} {qs ls : List PL} {n i : Nat} {ss out : List PL} (h : SylR E qs ls n i ss out) : i ≤ n ∧ out.length = ss.length := by
  induction h with
  | done => exact ⟨Nat.le_refl _, rfl⟩
  | skip hi _ _ ih => exact ⟨by omega, ih.2⟩
  | step hi _ _ _ _ _ _ _ _ _ _ _ _ _ ih => exact ⟨by omega, by simpa using ih.2⟩

theorem pcO_get {ss : List PL} {i : Nat} {s : PL} (h : ss[i]? = some s) : (pc (onesP ss))[i]? = some [.p s] := by simp [pc, onesP, h]
theorem pcO_set (ss : List PL) (i : Nat) (s : PL) : (pc (onesP ss)).set i [.p s] = pc (onesP (ss.set i s)) := by simp [pc, onesP, List.map_set]
theorem pcO_len (ss : List PL) : (pc (onesP ss)).length = ss.length := by simp [pc, onesP]

set_option maxRecDepth 100000 in
set_option maxHeartbeats 8000000 in
theorem law_go {E : Oracle} {K : Nat} (hmd : E.mode = md) {L : PL} {ls : List PL} (sL : Sl L (onesP ls)) {q0 q1 q2 : PL} (hn : ls.length < 1000) {X : Blk} {at_ : Nat} {tq : Nat} : ∀ (i : Nat) (ss out : List PL), SylR E [q0, q1, q2] ls ls.length i ss out → ss.length = ls.length →
    ∀ (k : Nat), ls.length - i < k →
    ∃ T', loopK E K 0 [2, 4, 7, 8, 9, 10, 11] x3_1 k ⟨[(2, .one (.p (.int .u8 (.ofNat at_)))), (4, .one (.ptr 1 0 0 0)), (7, .one (.p (.bool true))), (8, .one (.p L)), (9, .one (.p (.int .i64 (.ofNat ls.length)))), (10, .one (.own 2 0 0 ls.length)), (11, .one (.p (.int .i64 (.ofNat i))))], [X, ⟨false, 0, 3, [[.p q0, .p q1, .p q2]], false, tq⟩, ⟨false, 0, 1, pc (onesP ss), false, 33⟩]⟩ =
      some (.exit 0, ⟨T', [X, ⟨false, 0, 3, [[.p q0, .p q1, .p q2]], false, tq⟩, ⟨false, 0, 1, pc (onesP out), false, 33⟩]⟩) ∧ getT T' 2 = some (.one (.p (.int .u8 (.ofNat at_)))) ∧ getT T' 4 = some (.one (.ptr 1 0 0 0)) ∧ getT T' 7 = some (.one (.p (.bool true))) ∧ getT T' 8 = some (.one (.p L)) ∧ getT T' 9 = some (.one (.p (.int .i64 (.ofNat ls.length)))) ∧ getT T' 10 = some (.one (.own 2 0 0 ls.length)) := by
  intro i ss out h
  induction h with
  | done =>
    intro hl k hk
    obtain ⟨k, rfl⟩ : ∃ k', k = k' + 1 := ⟨k - 1, by omega⟩
    apply ex1
    · rw [loopK]
      simp only [EVS, EVN, reduceIte, Nat.reduceEqDiff, x3_1, Nat.lt_irrefl]
      rfl
    · simp only [EVS, reduceIte, Nat.reduceEqDiff, and_self]
  | @skip i ss out hi hj h ih =>
    intro hl k hk
    obtain ⟨k, rfl⟩ : ∃ k', k = k' + 1 := ⟨k - 1, by omega⟩
    obtain ⟨T', g1, g2⟩ := ih hl k (by omega)
    refine ⟨T', ?_, g2⟩
    obtain ⟨n, hn'⟩ : ∃ n, ls.length = n + 1 := ⟨ls.length - 1, by omega⟩
    have f1 : wrapF .i64 (.ofNat (i + 1)) = .ofNat (i + 1) := wrap_i64 (by omega)
    have hjj : (i + 1) % (n + 1) = i := by rw [← hn']; exact hj
    rw [hn'] at g1 hi ⊢
    rw [loopK]
    simp only [EVS, EVN, EVF, reduceIte, Nat.reduceEqDiff, Nat.reduceAdd, x3_1, hi, f1, hjj]
    exact g1
  | @step i j ss out q p li lj si sj b1 s1 b2 s2 hi hj hij hq hli hlj hsi hsj h1 h2 h3 h4 h5 h ih =>
    intro hl k hk
    obtain ⟨k, rfl⟩ : ∃ k', k = k' + 1 := ⟨k - 1, by omega⟩
    obtain ⟨T', g1, g2⟩ := ih (by simpa using hl) k (by omega)
    refine ⟨T', ?_, g2⟩
    have i3 : i < 3 := by
      have := (List.getElem?_eq_some_iff.1 hq).1
      simpa using this
    have hjl : j < ls.length := (List.getElem?_eq_some_iff.1 hlj).1
    have il := fun (hh : HF) (kd : IntKind) => sL.idx (h := hh) (k := kd) (sz := 1) (onesP_get hli) rfl
    have jl := fun (hh : HF) (kd : IntKind) => sL.idx (h := hh) (k := kd) (sz := 1) (onesP_get hlj) rfl
    have gi := pcO_get hsi
    have gj := pcO_get hsj
    have gj2 : (pc (onesP (ss.set i s1)))[j]? = some [.p sj] := pcO_get (by rw [List.getElem?_set_ne (fun e => hij e.symm)]; exact hsj)
    have gi2 : (pc (onesP (ss.set i s1)))[i]? = some [.p s1] := pcO_get (by rw [List.getElem?_set_self]; exact (List.getElem?_eq_some_iff.1 hsi).1)
    obtain ⟨n, hn'⟩ : ∃ n, ls.length = n + 1 := ⟨ls.length - 1, by omega⟩
    have f1 : wrapF .i64 (.ofNat (i + 1)) = .ofNat (i + 1) := wrap_i64 (by omega)
    have hjj : (i + 1) % (n + 1) = j := by rw [← hn']; exact hj
    have ql : ([DL.p q0, .p q1, .p q2].drop i) = .p q :: [DL.p q0, .p q1, .p q2].drop (i + 1) := by
      match i, hq, i3 with
      | 0, hq, _ => cases hq; rfl
      | 1, hq, _ => cases hq; rfl
      | 2, hq, _ => cases hq; rfl
    rw [hn'] at g1 hi hjl ⊢
    have hjl2 : j < n + 1 := hjl
    have i3le : i ≤ 3 := by omega
    rw [loopK]
    simp only [EVS, EVN, EVF, reduceIte, Nat.reduceEqDiff, Nat.reduceAdd, x3_1, hi, f1, hjj, hij, i3, il, jl, gi, gj2, ql, hmd, MDS, h1, h2, h3, h4, h5, hjl2, pcO_set, Nat.mul_one, i3le, Nat.le_add_left]
    exact g1

end Go.Proofs.YtidginchkjhobaaGreat

namespace Go.Ev
theorem All2.upd {α β : Type} {R : α → β → Prop} {xs : List α} {ys : List β} (h : All2 R xs ys) {x : α} {y : β} (hr : R x y) : ∀ i, All2 R (xs.set i x) (ys.set i y) := by
  induction h with
  | nil => intro i; exact .nil
  | cons h1 h2 ih =>
    intro i
    cases i with
    | zero => exact .cons hr h2
    | succ i => exact .cons h1 (ih i)
theorem All2.getL {α β : Type} {R : α → β → Prop} {xs : List α} {ys : List β} (h : All2 R xs ys) {i : Nat} (hi : i < xs.length) : ∃ x y, xs[i]? = some x ∧ ys[i]? = some y ∧ R x y := by
  have hy : i < ys.length := by rw [← h.length]; exact hi
  obtain ⟨x, hx, hr⟩ := h.get i _ (List.getElem?_eq_getElem hy)
  exact ⟨x, _, hx, List.getElem?_eq_getElem hy, hr⟩

end Go.Ev
namespace Go.Proofs.YtidginchkjhobaaGreat
open Go.Ev Go.Num

/-- A product, against a function of the monomials. -/
def prodP (φ : List Nat → Int) (t u : List Tm) : Int := pair t fun x => pair u fun y => φ (addM x y)
theorem dot_cons (φ : List Nat → Int) (t u : List Tm) (ts us : List (List Tm)) : dot φ (t :: ts) (u :: us) = prodP φ t u + dot φ ts us := rfl
theorem dot_set (φ : List Nat → Int) (t' : List Tm) : ∀ (sts lts : List (List Tm)) (i : Nat) {t u : List Tm}, sts[i]? = some t → lts[i]? = some u → dot φ (sts.set i t') lts = dot φ sts lts - prodP φ t u + prodP φ t' u
  | [], _, _, _, _, h, _ => by simp at h
  | _ :: _, [], _, _, _, _, h => by simp at h
  | s :: sts, l :: lts, 0, t, u, h1, h2 => by
    simp at h1 h2; subst h1; subst h2
    simp only [List.set_cons_zero, dot_cons]; omega
  | s :: sts, l :: lts, i + 1, t, u, h1, h2 => by
    have := dot_set φ t' sts lts i (t := t) (u := u) (by simpa using h1) (by simpa using h2)
    simp only [List.set_cons_succ, dot_cons, this]; omega
theorem addM_swap : ∀ (m k y : List Nat), addM (addM m k) y = addM (addM m y) k
  | [], _, _ => by simp [addM]
  | _ :: _, [], [] => by simp [addM]
  | _ :: _, [], _ :: _ => by simp [addM]
  | _ :: _, _ :: _, [] => by simp [addM]
  | a :: m, b :: k, c :: y => by
    have ih := addM_swap m k y
    unfold addM at ih ⊢
    simp only [List.zipWith_cons_cons, ih, List.cons.injEq, and_true]; omega
theorem prodP_add (φ : List Nat → Int) {t b : List Tm} (ht : W8 t) (hb : W8 b) (u : List Tm) : prodP φ (addT t b) u = prodP φ t u + prodP φ b u := pair_add _ _ _ _ (Nat.le_refl _) ht hb
theorem prodP_neg (φ : List Nat → Int) (b u : List Tm) : prodP φ (negT b) u = - prodP φ b u := pair_neg _ _
theorem w8_nil : W8 [] := fun _ h => by cases h
theorem prodP_swap (φ : List Nat → Int) {p u v : List Tm} (hp : W8 p) (hu : W8 u) (hv : W8 v) : prodP φ (mulT [] p u) v = prodP φ (mulT [] p v) u := by
  unfold prodP
  rw [pair_mulT _ hp hu w8_nil, pair_mulT _ hp hv w8_nil]
  simp only [pair, Int.zero_add]
  refine pair_congr fun t _ => ?_
  rw [pair_swap]
  refine pair_congr fun x _ => pair_congr fun y _ => ?_
  rw [addM_swap]

theorem syl_evt {B : Base} (hB : Std B) {q0 q1 q2 : PL} (h0 : RawPoly q0) (h1 : RawPoly q1) (h2 : RawPoly q2) {ls : List PL} {lts : List (List Tm)} (hl : PqL ls lts 9 2 3) (hn : ls.length ≤ 3) : ∀ (d i : Nat), i + d = ls.length → ∀ {ss : List PL} {sts : List (List Tm)}, PqL ss sts (i * 108) 3 (i * 6) → ss.length = ls.length → Zero sts lts →
    ∃ out outs, (Evt B fun E _ => SylR E [q0, q1, q2] ls ls.length i ss out) ∧ PqL out outs 324 3 18 ∧ out.length = ls.length ∧ Zero outs lts
  | 0, i, hi, ss, sts, hs, hsl, hz => by
    obtain rfl : i = ls.length := by omega
    exact ⟨ss, sts, Evt.of fun _ _ => .done, hs.imp fun _ _ h => h.mono (by omega) (Nat.le_refl _) (by omega), hsl, hz⟩
  | d + 1, i, hi, ss, sts, hs, hsl, hz => by
    have hlt : i < ls.length := by omega
    by_cases hj : (i + 1) % ls.length = i
    · obtain ⟨out, outs, g1, g2, g3, g4⟩ := syl_evt hB h0 h1 h2 hl hn d (i + 1) (by omega) (hs.imp fun _ _ h => h.mono (by omega) (Nat.le_refl _) (by omega)) hsl hz
      exact ⟨out, outs, g1.mono fun E K e => .skip hlt hj e, g2, g3, g4⟩
    · have hjl : (i + 1) % ls.length < ls.length := Nat.mod_lt _ (by omega)
      generalize hjj : (i + 1) % ls.length = j at hj hjl
      obtain ⟨q, hq, hrq⟩ : ∃ q, ([q0, q1, q2] : List PL)[i]? = some q ∧ RawPoly q := by
        match i, hlt with
        | 0, _ => exact ⟨q0, rfl, h0⟩
        | 1, _ => exact ⟨q1, rfl, h1⟩
        | 2, _ => exact ⟨q2, rfl, h2⟩
        | i + 3, h => omega
      obtain ⟨li, ui, hli, hui, hpi⟩ := hl.getL hlt
      obtain ⟨lj, uj, hlj, huj, hpj⟩ := hl.getL hjl
      obtain ⟨si, ti, hsi, hti, hci⟩ := hs.getL (i := i) (by omega)
      obtain ⟨sj, tj, hsj, htj, hcj⟩ := hs.getL (i := j) (by omega)
      obtain ⟨p, pt, g1, g2⟩ := poly_ret hB hrq
      obtain ⟨b1, g3, g4⟩ := g2.rby hB hpj (by omega) (by omega) (by omega) (by omega) (by omega) (by omega)
      obtain ⟨b2, g5, g6⟩ := g2.rby hB hpi (by omega) (by omega) (by omega) (by omega) (by omega) (by omega)
      obtain ⟨s1, g7, g8⟩ := hci.radd hB g4 (by omega) (by omega) (by omega)
      obtain ⟨s2, g9, g10⟩ := hcj.rsub hB g6 (by omega) (by omega) (by omega)
      have hnew : PqL ((ss.set i (.lst s1)).set j s2) ((sts.set i (addT ti (mulT [] pt uj))).set j (addT tj (negT (mulT [] pt ui)))) ((i + 1) * 108) 3 ((i + 1) * 6) :=
        All2.upd (All2.upd (hs.imp fun _ _ h => h.mono (a' := (i + 1) * 108) (n' := (i + 1) * 6) (by omega) (Nat.le_refl _) (by omega)) (g8.mono (a' := (i + 1) * 108) (e' := 3) (n' := (i + 1) * 6) (by omega) (by omega) (by omega)) i) (g10.mono (a' := (i + 1) * 108) (e' := 3) (n' := (i + 1) * 6) (by omega) (by omega) (by omega)) j
      have hne : i ≠ j := fun e => hj e.symm
      have hz2 : Zero ((sts.set i (addT ti (mulT [] pt uj))).set j (addT tj (negT (mulT [] pt ui)))) lts := by
        intro φ
        rw [dot_set φ _ _ lts j (t := tj) (by rw [List.getElem?_set_ne hne]; exact htj) huj, dot_set φ _ sts lts i hti hui, hz φ,
          prodP_add φ hci.ex.w8 g4.ex.w8, prodP_add φ hcj.ex.w8 (negT_ok g6).2.1.w8, prodP_neg, prodP_swap φ g2.ex.w8 hpj.ex.w8 hpi.ex.w8]
        omega
      obtain ⟨out, outs, k1, k2, k3, k4⟩ := syl_evt hB h0 h1 h2 hl hn d (i + 1) (by omega) hnew (by simpa using hsl) hz2
      exact ⟨out, outs, (k1.and (g1.evt.and (g3.evt.and (g5.evt.and (g7.evt.and g9.evt))))).mono fun E K ⟨e0, e1, e2, e3, e4, e5⟩ => .step hlt hjj hj hq hli hlj hsi hsj e1 e2 e4 e3 e5 e0, k2, k3, k4⟩

theorem zero_zeros (n : Nat) (lts : List (List Tm)) : Zero (List.replicate n []) lts := by
  intro φ
  induction n generalizing lts with
  | zero => cases lts <;> rfl
  | succ n ih =>
    cases lts with
    | nil => rfl
    | cons l lts => rw [List.replicate_succ, dot_cons, ih]; rfl
theorem pq_zeros (n a e k : Nat) : PqL (List.replicate n .nilS) (List.replicate n []) a e k := by
  induction n with
  | zero => exact .nil
  | succ n ih => rw [List.replicate_succ, List.replicate_succ]; exact .cons (Pq.zero a e k) ih

end Go.Proofs.YtidginchkjhobaaGreat

namespace Go.Proofs.YtidginchkjhobaaGreat
open Go.Ev Go.Num

theorem bool_eq {a b : Bool} (h : a = true ↔ b = true) : a = b := by
  cases a <;> cases b <;> simp at h ⊢

set_option maxRecDepth 100000 in
set_option maxHeartbeats 2000000 in
theorem lawIs_ret {B : Base} (hB : StdS B) (hsan : Ret B 7 [] (.one (.bool true))) {L k q0 q1 q2 : PL} (hL : RawList L) (h0 : RawPoly q0) (h1 : RawPoly q1) (h2 : RawPoly q2) {at_ : Nat} (hat : at_ < 256) :
    Ret B 3 [.agg [L, k], .agg [q0, q1, q2], .one (.int .u8 (.ofNat at_))] (.one (.bool true)) := by
  obtain ⟨ls, lts, p1, p2, p3⟩ := polys_ret hB.toStd hL k
  obtain ⟨out, outs, g1, g2, g3, g4⟩ := syl_evt hB.toStd h0 h1 h2 p2 p3 ls.length 0 (by omega) (ss := List.replicate ls.length .nilS) (sts := List.replicate ls.length []) (pq_zeros _ _ _ _) (by simp) (zero_zeros _ _)
  have sl : Sl (.lst (onesP ls)) (onesP ls) := .lst
  have so : Sl (.lst (onesP out)) (onesP out) := .lst
  -- the list itself
  obtain ⟨v1, a1, a2⟩ := is_ret hB so sl g2 p2 g3 (by omega) (by omega) (by omega) (by omega) (by omega) (by omega) (by omega) (by omega) (by omega) (by omega)
  have hv1 : v1 = true := a2.2 g4
  subst hv1
  -- a longer list
  have a3 := is_len hB.toStd (Q := .lst (onesP (out ++ [.nilS]))) (qs := out ++ [.nilS]) .lst sl (by simp; omega)
  -- zeros
  obtain ⟨v2, a4, a5⟩ := is_ret hB (Q := .lst (onesP (List.replicate ls.length .nilS))) .lst sl (pq_zeros ls.length 0 0 0) p2 (by simp) (by omega) (by omega) (by omega) (by omega) (by omega) (by omega) (by omega) (by simp) (by simp) (by omega)
  have hv2 : v2 = true := a5.2 (zero_zeros _ _)
  subst hv2
  have hpc : pc (onesP (List.replicate ls.length .nilS)) = List.replicate ls.length [DL.p .nilS] := by simp [pc, onesP]
  have n24 : ls.length * 24 ≤ lim := by unfold lim; omega
  have n24' : 24 * ls.length ≤ lim := by unfold lim; omega
  have n63 : ls.length ≤ 9223372036854775807 := by omega
  have fz := fun h => frz_pc 5 h (onesP out)
  have tk : (pc (onesP out)).take ls.length = pc (onesP out) := List.take_of_length_le (by rw [pcO_len]; omega)
  obtain ⟨p, pt, b1, b2⟩ := poly_ret hB.toStd h0
  cases hn : ls.length with
  | zero =>
    obtain rfl : ls = [] := List.eq_nil_of_length_eq_zero hn
    obtain rfl : out = [] := List.eq_nil_of_length_eq_zero g3
    obtain ⟨v4, a8, a9⟩ := ris_ret hB.toStd so sl g2 p2 g3 (by omega) (by omega) (by omega) (by omega) (by omega) (by omega) (by simp) (by simp) (by simp)
    have hv : v4 = true := a9.2 g4
    subst hv
    have hw : wrapF .i64 (.ofNat at_) = .ofNat at_ := wrap_i64 (by omega)
    refine Ret.of (hB.toStd.tab _ _ rfl) (((((((hsan.evt.and p1.evt).and g1).and a1.evt).and a3.evt).and a4.evt).and (a8.evt.and (hB.toStd.evt.and (Evt.ge 1000)))).mono fun E K ⟨⟨⟨⟨⟨⟨e0, e1⟩, e2⟩, e3⟩, e4⟩, e5⟩, e8, hmd, hK⟩ => ?_)
    obtain ⟨T', k1, k2, k3, k4, k5, k6, k7⟩ := law_go (K := K) hmd sl (by simp) (X := ⟨false, 0, 2, [[.p L, .p k]], false, 24⟩) (at_ := at_) (tq := 28) 0 _ _ e2 (by simp) K (by simp; omega)
    have sll := sl.len
    have o0 : onesP [] = [] := rfl
    have c0 : pc [] = [] := rfl
    have o1 : onesP [PL.nilS] = [[PL.nilS]] := rfl
    have l1 : (1 : Nat) * 24 ≤ lim := by decide
    simp only [o0, o1, c0, List.length_nil, List.replicate_zero, List.nil_append] at *
    simp only [EVS, EVN, EVF, reduceIte, Nat.reduceEqDiff, Nat.reduceLeDiff, Nat.reduceLT, Nat.reduceAdd, Nat.zero_le, Nat.le_refl, x3, hmd, MDS, e0, e1, sll, k1, k2, k3, k4, k5, k6, k7, e3,
      Nat.mul_zero, Nat.zero_mul, e4, e8, l1]
  | succ n =>
    have hsub : wrapF .i64 (Int.ofNat (n + 1) - Int.ofNat 1) = .ofNat n := by rw [sub_i64 (by omega) (by omega)]; rfl
    have hw2 : wrapF .i64 (.ofNat n) = .ofNat n := wrap_i64 (by omega)
    have hw : wrapF .i64 (.ofNat at_) = .ofNat at_ := wrap_i64 (by omega)
    have hn3 : 0 < n + 1 := by omega
    have n63b : n + 1 + 1 ≤ 9223372036854775807 := by omega
    have n24c : (n + 1 + 1) * 24 ≤ lim := by unfold lim; omega
    have hlt : at_ % (n + 1) < out.length := by rw [g3, hn]; exact Nat.mod_lt _ (by omega)
    obtain ⟨si, ti, c1, c2, c3⟩ := g2.getL hlt
    obtain ⟨s1, b3, b4⟩ := c3.radd hB.toStd b2 (by omega) (by omega) (by omega)
    have ht : PqL (out.set (at_ % (n + 1)) (.lst s1)) (outs.set (at_ % (n + 1)) (addT ti pt)) 330 3 20 := All2.upd (g2.imp fun _ _ h => h.mono (by omega) (Nat.le_refl _) (by omega)) b4 _
    have htl : (out.set (at_ % (n + 1)) (.lst s1)).length = ls.length := by simpa using g3
    obtain ⟨v3, a6, a7⟩ := is_ret hB (Q := .lst (onesP (out.set (at_ % (n + 1)) (.lst s1)))) .lst sl ht p2 htl (by omega) (by omega) (by omega) (by omega) (by omega) (by omega) (by omega) (by omega) (by omega) (by omega)
    obtain ⟨v4, a8, a9⟩ := ris_ret hB.toStd (Q := .lst (onesP (out.set (at_ % (n + 1)) (.lst s1)))) .lst sl ht p2 htl (by omega) (by omega) (by omega) (by omega) (by omega) (by omega) (by omega) (by omega) (by omega)
    have hv : v4 = v3 := bool_eq (a9.trans a7.symm)
    subst hv
    have a10 := is_len hB.toStd (Q := .lst (onesP (out.take n))) (qs := out.take n) .lst sl (by rw [List.length_take]; omega)
    refine Ret.of (hB.toStd.tab _ _ rfl) (((((((hsan.evt.and p1.evt).and g1).and a1.evt).and a3.evt).and a4.evt).and ((((b1.evt.and b3.evt).and a6.evt).and a8.evt).and (a10.evt.and (hB.toStd.evt.and (Evt.ge 1000))))).mono fun E K ⟨⟨⟨⟨⟨⟨e0, e1⟩, e2⟩, e3⟩, e4⟩, e5⟩, ⟨⟨⟨e6, e7⟩, e8⟩, e9⟩, e10, hmd, hK⟩ => ?_)
    obtain ⟨T', k1, k2, k3, k4, k5, k6, k7⟩ := law_go (K := K) hmd sl (by omega) (X := ⟨false, 0, 2, [[.p L, .p k]], false, 24⟩) (at_ := at_) (tq := 28) 0 _ _ e2 (by simp) K (by omega)
    have sll := sl.len
    rw [hpc] at k1
    rw [onesP_len, hn] at sll
    rw [hn] at k1 k6 k7 n24' n24 n63 e5 g3 tk
    rw [hn] at hpc
    have fz0 := fun h => frz_pc 5 h (onesP (List.replicate (n + 1) .nilS))
    rw [hpc] at fz0
    have gi := pcO_get c1
    have i0 : at_ % (n + 1) < n + 1 := Nat.mod_lt _ (by omega)
    have all1 : ((pc (onesP out)).all fun c => decide (c.length = 1)) = true := by simp [pc, onesP]
    have lo : (pc (onesP out)).length = n + 1 := by rw [pcO_len]; exact g3
    have n24b : (n + 1) * 24 ≤ lim := n24
    have fzt := fun h => frz_pc 5 h (onesP (out.set (at_ % (n + 1)) (.lst s1)))
    have tkt : (pc (onesP (out.set (at_ % (n + 1)) (.lst s1)))).take (n + 1) = pc (onesP (out.set (at_ % (n + 1)) (.lst s1))) := List.take_of_length_le (by rw [pcO_len, List.length_set, g3]; exact Nat.le_refl _)
    have lt1 : (pc (onesP (out.set (at_ % (n + 1)) (.lst s1)))).length = n + 1 := by rw [pcO_len, List.length_set, g3]
    have fzl := fun h => frz_pc 5 h (onesP (out ++ [.nilS]))
    have ll : (pc (onesP (out ++ [PL.nilS]))).length = n + 1 + 1 := by rw [pcO_len, List.length_append, g3]; rfl
    have tkl : (pc (onesP (out ++ [PL.nilS]))).take (n + 1 + 1) = pc (onesP (out ++ [.nilS])) := List.take_of_length_le (by rw [ll]; exact Nat.le_refl _)
    have tkn : (pc (onesP out)).take n = pc (onesP (out.take n)) := by simp [pc, onesP, List.map_take]
    have fzn := fun h => frz_pc 5 h (onesP (out.take n))
    have slo : ∀ (sz : Nat) (h : HF) (id ver off len u : Nat), sliceIn sz h (.own id ver off len) 0 (some u) = (match h id with | some b => bif Nat.ble 0 u && (Nat.ble u len || (Nat.beq b.ver ver && !b.mp && Nat.beq off 0 && Nat.blt 0 sz && Nat.ble u b.ch.length)) && Nat.beq b.sz sz then some (.own id ver off u, [id]) else none | none => none) := fun _ _ _ _ _ _ _ => rfl
    have nle : n ≤ n + 1 := Nat.le_succ n
    have lr : (List.replicate (n + 1) [DL.p PL.nilS]).length = n + 1 := List.length_replicate
    have tr : (List.replicate (n + 1) [DL.p PL.nilS]).take (n + 1) = List.replicate (n + 1) [DL.p PL.nilS] := List.take_of_length_le (by rw [lr]; exact Nat.le_refl _)
    have vv : ((v4 == v4) != false) = true := by cases v4 <;> rfl
    simp only [EVS, EVN, EVF, reduceIte, Nat.reduceEqDiff, Nat.reduceLeDiff, Nat.reduceLT, Nat.reduceAdd, Nat.zero_le, Nat.le_refl, x3, hmd, MDS, e0, e1, sll, n24', n63, k1, k2, k3, k4, k5, k6, k7, tk, fz, e3, all1, lo, n24b, n24c, n63b, hn3, hw, e6, gi, e7, i0, pcO_set, hsub,
      Nat.zero_mul, pc_snoc1, fzt, tkt, lt1, fzl, ll, tkl, e4, e5, e8, e9, e10, fz0, tkn, fzn, vv, slo, nle, lr, tr]

end Go.Proofs.YtidginchkjhobaaGreat
