/- small and list answer on every raw input. -/
import Derived.Test.YthmlggklnfmidaaGreatSymList
import Derived.Test.YthmlggklnfmidaaGreatEvLe
import Derived.Test.YthmlggklnfmidaaGreatTabsSmall
namespace Go.Proofs.YthmlggklnfmidaaGreat
open Go.Ev

theorem E0_le : OLe E0 (lift XV 1000 E0) := by
  refine ⟨rfl, fun f a r h => ?_, fun f a H r h => ?_, rfl⟩
  · have hm : memoP f a M4 = some r := h
    have := memoP_mem hm
    simp only [M4, List.mem_singleton, Prod.mk.injEq] at this
    obtain ⟨rfl, -, -⟩ := this
    exact h
  · have h' := h
    simp only [E0, withMemo, E0B] at h
    obtain ⟨hf, h⟩ := cond_or h
    obtain rfl := Nat.eq_of_beq_eq_true hf
    exact h'

theorem EV_le {n m : Nat} (h : n ≤ m) : OLe (EV n) (EV m) := ev_le E0 XV 1000 E0_le n m h

theorem EV_pure {n f : Nat} {xf : XFunc} {args : List PV} (hx : XV f = some xf) : (EV (n + 1)).pure f args = evPureF (EV n) 1000 xf args := by
  simp only [EV, ev, lift, hx]

theorem EV_mode : ∀ (n : Nat), (EV n).mode = md
  | 0 => rfl
  | n + 1 => EV_mode n

theorem EV_call {n f : Nat} (h : inNats f heapFs = false) : isHeapCall (EV n) (.call f) = false := by
  simp only [isHeapCall, isHeapF, EV_mode, md, h, cond_false]

/-- The numbers of a table. -/
theorem zOf_at {off : Nat} {z : Int} (h : z.natAbs ≤ off) : ∃ i, i < 2 * off + 1 ∧ zOf off i = z := by
  refine ⟨(z + off).toNat, by omega, ?_⟩
  unfold zOf; omega

theorem cmp_ev {a b : Nat × Nat × Nat} (ha : a.1 + a.2.1 + a.2.2 ≤ 4) (hb : b.1 + b.2.1 + b.2.2 ≤ 4) : (EV 20).pure 24 [.agg (intsOf a), .agg (intsOf b)] = some (.one (.int .i64 (cmpM a b))) :=
  chk_spec (allM_spec (allM_spec tabCmp_ok a ha) b hb)
theorem sgn_ev {z : Int} (hz : z.natAbs ≤ 15) : (EV 20).pure 26 [.agg (ratOf z)] = some (.one (.int .i64 (sgn z))) := by
  obtain ⟨i, hi, rfl⟩ := zOf_at hz
  exact chk_spec (allN_spec tabSgn_ok i hi)
theorem ratadd_ev {z w : Int} (hz : z.natAbs ≤ 12) (hw : w.natAbs ≤ 3) : (EV 20).pure 25 [.agg (ratOf z), .agg (ratOf w)] = some (.agg (ratOf (z + w))) := by
  obtain ⟨i, hi, rfl⟩ := zOf_at hz
  obtain ⟨j, hj, rfl⟩ := zOf_at hw
  exact chk_spec (allN_spec (allN_spec tabAdd_ok i hi) j hj)
theorem whole_ev {z : Int} (hz : z.natAbs ≤ 3) : (EV 20).pure 23 [.one (.int .i64 z)] = some (.agg (wholeOf z)) := by
  obtain ⟨i, hi, rfl⟩ := zOf_at hz
  exact chk_spec (allN_spec tabWhole_ok i hi)
theorem abs_ev {a : Int} (h1 : -128 ≤ a) (h2 : a ≤ 127) : (EV 20).pure 50 [.one (.int .i8 a)] = some (.one (nL a.natAbs)) := by
  have := chk_spec (allN_spec tabAbs_ok (a + 128).toNat (by omega))
  rw [show zOf 128 (a + 128).toNat = a by unfold zOf; omega] at this
  exact this
theorem scale_ev {z : Int} {m : Nat × Nat × Nat} (hz : z.natAbs ≤ 3) (hm : m.1 + m.2.1 + m.2.2 ≤ 4) : (EV 20).pure 46 [.agg (wholeOf z), .one (.lst [termOf 1 m])] = some (.one (scaled z m)) := by
  obtain ⟨i, hi, rfl⟩ := zOf_at hz
  exact chk_spec (allM_spec (allN_spec tabScale_ok i hi) m hm)

theorem cmpN_3 (a b : Nat) {r : Int} (h : r = 1 ∨ r = -1 ∨ r = 0) : cmpN a b r = 1 ∨ cmpN a b r = -1 ∨ cmpN a b r = 0 := by
  unfold cmpN
  cases Nat.blt a b with
  | true => exact .inr (.inl rfl)
  | false =>
    cases Nat.blt b a with
    | true => exact .inl rfl
    | false => exact h
theorem cmpM_3 (a b : Nat × Nat × Nat) : cmpM a b = 1 ∨ cmpM a b = -1 ∨ cmpM a b = 0 := cmpN_3 _ _ (cmpN_3 _ _ (cmpN_3 _ _ (.inr (.inr rfl))))

theorem rat_len (z : Int) : (ratOf z).length = 4 := by cases z <;> rfl
theorem term_len (z : Int) (m : Nat × Nat × Nat) : (termOf z m).length = 12 := by simp [termOf, rat_len, intsOf]
theorem term_rat (z : Int) (m : Nat × Nat × Nat) : ((termOf z m).drop 0).take 4 = ratOf z := by cases z <;> rfl
theorem term_ints (z : Int) (m : Nat × Nat × Nat) : ((termOf z m).drop 4).take 8 = intsOf m := by cases z <;> rfl
theorem sgn_ne {z : Int} (h : z ≠ 0) : sgn z ≠ 0 := by
  cases z with
  | ofNat n =>
    cases n with
    | zero => exact absurd rfl h
    | succ n => show (1 : Int) ≠ 0; decide
  | negSucc n => show (-1 : Int) ≠ 0; decide

theorem add_nil : ∀ {es : List (List PL)} {b : Nat}, (∀ c ∈ es, GoodT b c) → AddR (EV 20) es [] es
  | [], _, _ => .nil
  | c :: es, b, h => by
    obtain ⟨z, m, rfl, -, -, -⟩ := h c (List.mem_cons_self ..)
    exact .leftE (term_len z m) (add_nil fun q hq => h q (List.mem_cons_of_mem _ hq))

theorem add_term {w : Int} {d : Nat × Nat × Nat} (hw : w ≠ 0) (hw3 : w.natAbs ≤ 3) (hd : d.1 + d.2.1 + d.2.2 ≤ 4) {b : Nat} (hb : b ≤ 12) : ∀ {es : List (List PL)}, (∀ c ∈ es, GoodT b c) →
    ∃ out, AddR (EV 20) es [termOf w d] out ∧ out.length ≤ es.length + 1 ∧ ∀ c ∈ out, GoodT (b + 3) c
  | [], _ => ⟨[termOf w d], .rightE (term_len w d) .nil, by simp, fun c hc => by rw [List.mem_singleton.1 hc]; exact ⟨w, d, rfl, hw, by omega, hd⟩⟩
  | c :: es, h => by
    have up : ∀ q, GoodT b q → GoodT (b + 3) q := fun q hq => by
      obtain ⟨z, m, h1, h2, h3, h4⟩ := hq
      exact ⟨z, m, h1, h2, by omega, h4⟩
    have htl : ∀ q ∈ es, GoodT b q := fun q hq => h q (List.mem_cons_of_mem _ hq)
    have hc := h c (List.mem_cons_self ..)
    obtain ⟨z, m, rfl, h2, h3, h4⟩ := hc
    have hcm := cmp_ev h4 hd
    rcases cmpM_3 m d with e | e | e
    · obtain ⟨out, g1, g2, g3⟩ := add_term hw hw3 hd hb htl
      refine ⟨termOf z m :: out, .leftC (term_len z m) (term_len w d) (by rw [term_ints, term_ints, hcm, e]) g1, by simp; omega, fun q hq => ?_⟩
      rcases List.mem_cons.1 hq with rfl | hq
      · exact ⟨z, m, rfl, h2, by omega, h4⟩
      · exact g3 q hq
    · refine ⟨termOf w d :: termOf z m :: es, .rightC (term_len z m) (term_len w d) (by rw [term_ints, term_ints, hcm, e]) (add_nil h), by simp, fun q hq => ?_⟩
      rcases List.mem_cons.1 hq with rfl | hq
      · exact ⟨w, d, rfl, hw, by omega, hd⟩
      · exact up q (h q hq)
    · have hsum := ratadd_ev (z := z) (w := w) (by omega) hw3
      have hsg := sgn_ev (z := z + w) (by omega)
      by_cases h0 : z + w = 0
      · refine ⟨es, .cancel (s4 := ratOf (z + w)) (term_len z m) (term_len w d) (by rw [term_ints, term_ints, hcm, e]) (by rw [term_rat, term_rat, hsum]) (rat_len _) (by rw [hsg, h0]; rfl) (add_nil htl), by simp; omega, fun q hq => up q (htl q hq)⟩
      · refine ⟨(ratOf (z + w) ++ ((termOf z m).drop 4).take 8) :: es, .both (s4 := ratOf (z + w)) (term_len z m) (term_len w d) (by rw [term_ints, term_ints, hcm, e]) (by rw [term_rat, term_rat, hsum]) (rat_len _) hsg (sgn_ne h0) (add_nil htl), by simp, fun q hq => ?_⟩
        rcases List.mem_cons.1 hq with rfl | hq
        · exact ⟨z + w, m, by rw [term_ints]; rfl, h0, by omega, h4⟩
        · exact up q (htl q hq)

theorem madeH : MadeH (EV 21) where
  m := ⟨EV_call rfl, EV_call rfl, EV_call rfl, EV_call rfl⟩
  abs := fun a h1 h2 => (EV_le (by decide)).pure _ _ _ (abs_ev h1 h2)
  whole := fun z h => (EV_le (by decide)).pure _ _ _ (whole_ev h)
  scale := fun z m h h' => (EV_le (by decide)).pure _ _ _ (scale_ev h h')
  add := fun j es z m hj hg hz hm => by
    have hAM : AddM (EV 20) := ⟨EV_call rfl, EV_call rfl, EV_call rfl⟩
    have hel : es.length < 400 := by have := hg.1; omega
    rw [EV_pure (n := 20) (xf := x8) rfl]
    by_cases h0 : z = 0
    · subst h0
      exact ⟨es, add_ev hAM (.inl rfl) (.inr ⟨rfl, rfl⟩) hel (by simp) (add_nil hg.2), hg.le (by omega)⟩
    · obtain ⟨out, g1, g2, g3⟩ := add_term h0 hz hm (b := 3 * j) (by omega) hg.2
      have hs : scaled z m = .lst [termOf z m] := by
        cases z with
        | ofNat n =>
          cases n with
          | zero => exact absurd rfl h0
          | succ n => rfl
        | negSucc n => rfl
      rw [hs]
      exact ⟨out, add_ev hAM (.inl rfl) (.inl rfl) hel (by simp) g1, by have := hg.1; omega, fun c hc => by
        obtain ⟨z', m', q1, q2, q3, q4⟩ := g3 c hc
        exact ⟨z', m', q1, q2, by omega, q4⟩⟩

theorem exB {E : Oracle} {K : Nat} {xf : XFunc} {args rs : List DV} {H : List Blk} {s : St} (hle : Nat.ble args.length xf.ntmps = true) (he : evCode E K 0 xf.body ⟨argsT args 0, H⟩ = some (.ret, s)) (hr : mapO (loadRes s) xf.results = some rs) : ∃ s, evBody E K xf args H = some (rs, s) := ⟨s, body_ret hle he hr⟩

theorem call_5 {E : Oracle} {f b m : Nat} {h : HF} {x y z w q : PL} {r : PV} (hm : isHeapCall E (.call f) = false) (hr : E.pure f [.one x, .one y, .one z, .one w, .one q] = some r) : evOp E b (.call f) [.one (.p x), .one (.p y), .one (.p z), .one (.p w), .one (.p q)] h m = some ⟨inj r, [], [], []⟩ := by
  have h1 : ∀ q : PL, freezeV1 h (.one (.p q)) = some (.one q) := fun _ => rfl
  have h2 : ∀ q : PL, idsV h (.one (.p q)) = [] := fun _ => rfl
  simp only [evOp, evPure, mode_of hm, mapO, h1, h2, List.flatMap_cons, List.flatMap_nil, hr, List.append_nil, List.isEmpty_nil, Bool.true_or, cond_true]

/-- Made on raw rows. -/
theorem made_22 {R : PL} {rs : List (List PL)} {deg terms : Nat} (hR : PolyL R rs) (hrs : ∀ c ∈ rs, RawRow c) (hd : deg ≤ 4) (ht : terms ≤ 5) (ht0 : 0 < terms) : ∃ out, (EV 22).pure 22 [.agg [R], .one (nL 2), .one (nL deg), .one (nL terms)] = some (.one (.lst out)) ∧ Good 5 out := by
  rw [EV_pure (n := 21) (xf := x22) rfl]
  exact made_ev madeH hR hrs hd ht ht0

/-- A raw polynomial. -/
def RawPoly (R : PL) : Prop := ∃ rs, PolyL R rs ∧ ∀ c ∈ rs, RawRow c

set_option maxRecDepth 100000 in
theorem small_ev {R : PL} (hR : RawPoly R) : ∃ out, (EV 23).pure 6 [.agg [R]] = some (.one (.lst out)) ∧ Good 5 out := by
  obtain ⟨rs, h1, h2⟩ := hR
  obtain ⟨out, g1, g2⟩ := made_22 h1 h2 (deg := 1) (terms := 3) (by decide) (by decide) (by decide)
  refine ⟨out, ?_, g2⟩
  rw [EV_pure (n := 22) (xf := x6) rfl]
  have hb : ∃ s, evBody (EV 22) 1000 x6 ([.agg [R]].map inj) [] = some ([.one (.p (.lst out))], s) := by
    apply exB
    rotate_left
    dsimp only [x6]
    apply seq_region
    · apply ops_step (oper_yes rfl rfl rfl rfl)
      apply ops_step (oper_p rfl rfl rfl rfl); rfl
    apply seq_region
    · apply ops_step (oper_r rfl rfl rfl rfl)
      apply ops_step (oper_p rfl rfl (hpc (EV_call rfl)) (call_4 (x := [R]) (EV_call rfl) g1))
      apply ops_step (oper_p rfl rfl rfl rfl); rfl
    · rfl
    · rfl
    · rfl
  obtain ⟨s, hb⟩ := hb
  exact pureF_of (ps := [.one (.lst out)]) hb rfl

set_option maxRecDepth 100000 in
theorem list_23 {L : PL} (hL : ∃ ls, PolyL L ls ∧ ∀ c ∈ ls, ∃ R, c = [R] ∧ RawPoly R) : ∃ ps : List (List (List PL)), (EV 24).pure 5 [.one L] = some (.one (.lst (ps.map polyRow))) ∧ ps.length ≤ 2 ∧ ∀ p ∈ ps, Good 5 p := by
  obtain ⟨ls, h1, h2⟩ := hL
  obtain ⟨ps, g1, g2, g3⟩ := list_ev (E := EV 22) (EV_call rfl) h1 (fun c hc => by
    obtain ⟨R, rfl, rs, k1, k2⟩ := h2 c hc
    exact ⟨rfl, made_22 k1 k2 (by decide) (by decide) (by decide)⟩)
  rw [← EV_pure (n := 22) (f := 21) rfl] at g1
  refine ⟨ps, ?_, g2, g3⟩
  rw [EV_pure (n := 23) (xf := x5) rfl]
  have hb : ∃ s, evBody (EV 23) 1000 x5 ([.one L].map inj) [] = some ([.one (.p (.lst (ps.map polyRow)))], s) := by
    apply exB
    rotate_left
    dsimp only [x5]
    apply seq_region
    · apply ops_step (oper_p rfl rfl rfl rfl); rfl
    apply seq_region
    · apply ops_step (oper_p rfl rfl rfl rfl)
      apply ops_step (oper_p rfl rfl (hpc (EV_call rfl)) (call_5 (EV_call rfl) g1))
      apply ops_step (oper_p rfl rfl rfl rfl); rfl
    · rfl
    · rfl
    · rfl
  obtain ⟨s, hb⟩ := hb
  exact pureF_of (ps := [.one (.lst (ps.map polyRow))]) hb rfl

end Go.Proofs.YthmlggklnfmidaaGreat
