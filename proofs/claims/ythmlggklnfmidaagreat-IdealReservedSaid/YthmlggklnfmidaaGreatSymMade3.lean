/- The polynomial that raw numbers describe (the reference's Made): the outer loop and the whole function. -/
import Derived.Test.YthmlggklnfmidaaGreatSymMade2
namespace Go.Proofs.YthmlggklnfmidaaGreat
open Go.Ev

/-- A term with a small whole coefficient and degree at most 4. -/
def GoodT (b : Nat) (c : List PL) : Prop := ∃ (z : Int) (m : Nat × Nat × Nat), c = termOf z m ∧ z ≠ 0 ∧ z.natAbs ≤ b ∧ m.1 + m.2.1 + m.2.2 ≤ 4
/-- What Made has built after j rounds. -/
def Good (j : Nat) (es : List (List PL)) : Prop := es.length ≤ j ∧ ∀ c ∈ es, GoodT (3 * j) c
theorem Good.le {j k : Nat} {es : List (List PL)} (h : Good j es) (hjk : j ≤ k) : Good k es :=
  ⟨Nat.le_trans h.1 hjk, fun c hc => by
    obtain ⟨z, m, h1, h2, h3, h4⟩ := h.2 c hc
    exact ⟨z, m, h1, h2, by omega, h4⟩⟩
theorem Good.nil (j : Nat) : Good j [] := ⟨Nat.zero_le _, fun _ h => by cases h⟩

/-- What Made asks of the functions that it calls. -/
structure MadeH (E : Oracle) : Prop where
  m : MadeM E
  abs : ∀ a : Int, -128 ≤ a → a ≤ 127 → E.pure 50 [.one (.int .i8 a)] = some (.one (nL a.natAbs))
  whole : ∀ z : Int, z.natAbs ≤ 3 → E.pure 23 [.one (.int .i64 z)] = some (.agg (wholeOf z))
  scale : ∀ (z : Int) (m : Nat × Nat × Nat), z.natAbs ≤ 3 → m.1 + m.2.1 + m.2.2 ≤ 4 → E.pure 46 [.agg (wholeOf z), .one (.lst [termOf 1 m])] = some (.one (scaled z m))
  add : ∀ (j : Nat) (es : List (List PL)) (z : Int) (m : Nat × Nat × Nat), j ≤ 4 → Good j es → z.natAbs ≤ 3 → m.1 + m.2.1 + m.2.2 ≤ 4 → ∃ out, E.pure 8 [.one (.lst es), .one (scaled z m)] = some (.one (.lst out)) ∧ Good (j + 1) out

/-- A raw row of five small numbers. -/
def RawRow (c : List PL) : Prop := ∃ a0 a1 a2 a3 a4 : Int, c = raw5 a0 a1 a2 a3 a4 ∧ (-128 ≤ a0 ∧ a0 ≤ 127) ∧ (-128 ≤ a1 ∧ a1 ≤ 127) ∧ (-128 ≤ a2 ∧ a2 ≤ 127) ∧ (-128 ≤ a3 ∧ a3 ≤ 127)

theorem tmod4 (a : Int) : (Int.tmod a 4).natAbs ≤ 3 := by
  have h := Int.natAbs_tmod a 4
  have : a.natAbs % 4 < 4 := Nat.mod_lt _ (by decide)
  rw [h]; show a.natAbs % 4 ≤ 3; omega

theorem small7 {z : Int} (h : z.natAbs ≤ 3) : z = -3 ∨ z = -2 ∨ z = -1 ∨ z = 0 ∨ z = 1 ∨ z = 2 ∨ z = 3 := by omega

theorem wrap7 {z : Int} (h : z.natAbs ≤ 3) : wrapF .i64 z = z := by
  rcases small7 h with rfl | rfl | rfl | rfl | rfl | rfl | rfl <;> rfl

theorem scaled_scalar {z : Int} (m : Nat × Nat × Nat) (h : z ≠ 0) : (PV.one (scaled z m)).scalar = false := by
  cases z with
  | ofNat n =>
    cases n with
    | zero => exact absurd rfl h
    | succ n => rfl
  | negSucc n => rfl

theorem exps_le (deg t1 t2 t3 : Nat) : e0 deg t1 + e1 deg t1 t2 + e2 deg t1 t2 t3 ≤ deg := by
  have h1 : e0 deg t1 < deg + 1 := Nat.mod_lt _ (Nat.succ_pos _)
  have h2 : e1 deg t1 t2 < deg - e0 deg t1 + 1 := Nat.mod_lt _ (Nat.succ_pos _)
  have h3 : e2 deg t1 t2 t3 = 0 := rfl
  omega

section
variable {E : Oracle} {R : PL} {rs : List (List PL)} {deg terms k : Nat} {outD : DV} {G : List Blk}

/-- One round from a pure value. -/
theorem round_L (hH : MadeH E) (hR : PolyL R rs) {c : List PL} (hk : rs[k]? = some c) (hc : RawRow c) (hkt : k < terms) (hd : deg ≤ 4) (hk4 : k ≤ 4) {es : List (List PL)} (hg : Good k es) {s : St} (hs : AtM R deg terms k (.one (.p (.lst es))) G s) :
    ∃ s' out G', evCode E 1000 0 bMade s = some (.normal, s') ∧ AtM R deg terms (k + 1) (.one (.p (.lst out))) G' s' ∧ Good (k + 1) out := by
  obtain ⟨a0, a1, a2, a3, a4, rfl, ⟨p0, q0⟩, ⟨p1, q1⟩, ⟨p2, q2⟩, ⟨p3, q3⟩⟩ := hc
  have hl := exps_le deg a1.natAbs a2.natAbs a3.natAbs
  obtain ⟨out, o1, o2⟩ := hH.add k es (Int.tmod a0 4) (e0 deg a1.natAbs, e1 deg a1.natAbs a2.natAbs, e2 deg a1.natAbs a2.natAbs a3.natAbs) hk4 hg (tmod4 a0) (by simp only; omega)
  have hsc := hH.scale (Int.tmod a0 4) (e0 deg a1.natAbs, e1 deg a1.natAbs a2.natAbs, e2 deg a1.natAbs a2.natAbs a3.natAbs) (tmod4 a0) (by simp only; omega)
  by_cases hz : Int.tmod a0 4 = 0
  · have hb : (PV.one (scaled (Int.tmod a0 4) (e0 deg a1.natAbs, e1 deg a1.natAbs a2.natAbs, e2 deg a1.natAbs a2.natAbs a3.natAbs))).scalar = true := by rw [hz]; rfl
    obtain ⟨s', g1, g2⟩ := out_LZ (u1 := wholeOf 1) hH.m hR hk hkt (hH.abs a1 p1 q1) (hH.abs a2 p2 q2) (hH.abs a3 p3 q3) (by omega) (by omega) (wrap7 (tmod4 a0)) (hH.whole _ (tmod4 a0)) (hH.whole 1 (by decide)) rfl hsc hb o1 hs
    exact ⟨s', out, _, g1, g2, o2⟩
  · obtain ⟨s', g1, g2⟩ := out_LN (u1 := wholeOf 1) hH.m hR hk hkt (hH.abs a1 p1 q1) (hH.abs a2 p2 q2) (hH.abs a3 p3 q3) (by omega) (by omega) (wrap7 (tmod4 a0)) (hH.whole _ (tmod4 a0)) (hH.whole 1 (by decide)) rfl hsc (scaled_scalar _ hz) o1 hs
    exact ⟨s', out, _, g1, g2, o2⟩

/-- The first round. -/
theorem round_F (hH : MadeH E) (hR : PolyL R rs) {c : List PL} (hk : rs[0]? = some c) (hc : RawRow c) (hkt : 0 < terms) (hd : deg ≤ 4) (hG : G[0]? = some (emptyT false)) {s : St} (hs : AtM R deg terms 0 (.one (.own 1 0 0 0)) G s) :
    ∃ s' out G', evCode E 1000 0 bMade s = some (.normal, s') ∧ AtM R deg terms 1 (.one (.p (.lst out))) G' s' ∧ Good 1 out := by
  obtain ⟨a0, a1, a2, a3, a4, rfl, ⟨p0, q0⟩, ⟨p1, q1⟩, ⟨p2, q2⟩, ⟨p3, q3⟩⟩ := hc
  have hl := exps_le deg a1.natAbs a2.natAbs a3.natAbs
  obtain ⟨out, o1, o2⟩ := hH.add 0 [] (Int.tmod a0 4) (e0 deg a1.natAbs, e1 deg a1.natAbs a2.natAbs, e2 deg a1.natAbs a2.natAbs a3.natAbs) (by decide) (Good.nil 0) (tmod4 a0) (by simp only; omega)
  have hsc := hH.scale (Int.tmod a0 4) (e0 deg a1.natAbs, e1 deg a1.natAbs a2.natAbs, e2 deg a1.natAbs a2.natAbs a3.natAbs) (tmod4 a0) (by simp only; omega)
  by_cases hz : Int.tmod a0 4 = 0
  · have hb : (PV.one (scaled (Int.tmod a0 4) (e0 deg a1.natAbs, e1 deg a1.natAbs a2.natAbs, e2 deg a1.natAbs a2.natAbs a3.natAbs))).scalar = true := by rw [hz]; rfl
    obtain ⟨s', g1, g2⟩ := out_FZ (u1 := wholeOf 1) hG hH.m hR hk hkt (hH.abs a1 p1 q1) (hH.abs a2 p2 q2) (hH.abs a3 p3 q3) (by omega) (by omega) (wrap7 (tmod4 a0)) (hH.whole _ (tmod4 a0)) (hH.whole 1 (by decide)) rfl hsc hb o1 hs
    exact ⟨s', out, _, g1, g2, o2⟩
  · obtain ⟨s', g1, g2⟩ := out_FN (u1 := wholeOf 1) hG hH.m hR hk hkt (hH.abs a1 p1 q1) (hH.abs a2 p2 q2) (hH.abs a3 p3 q3) (by omega) (by omega) (wrap7 (tmod4 a0)) (hH.whole _ (tmod4 a0)) (hH.whole 1 (by decide)) rfl hsc (scaled_scalar _ hz) o1 hs
    exact ⟨s', out, _, g1, g2, o2⟩

set_option maxRecDepth 100000 in
theorem out_stop1 (hR : PolyL R rs) (hk : rs.length ≤ k) {s : St} (hs : AtM R deg terms k outD G s) : ∃ s', evCode E 1000 0 bMade s = some (.exit 0, s') ∧ getT s'.T 9 = some outD ∧ s'.H = boxR R :: G := by
  obtain ⟨sT, sH⟩ := s
  obtain ⟨hT, hH⟩ := hs
  simp only at hT hH
  subst hH
  unfold bMade
  dsimp only [x22, loopD, loopOf]
  refine ⟨⟨[(1, nI 2), (2, nI deg), (3, nI terms), (4, .one (.ptr 0 0 0 0)), (9, outD), (10, nI k), (24, .one (.p (.bool false)))], _⟩, ?_, rfl, rfl⟩
  apply keep_step hT
  apply seq_exit
  apply seq_region
  · apply ops_step (oper_p rfl rfl rfl rfl)
    apply ops_step (oper_p rfl rfl rfl rfl)
    apply ops_step (oper_r rfl rfl rfl rfl)
    apply ops_step (oper_p rfl rfl rfl (len_poly hR))
    apply ops_step (oper_p rfl rfl rfl (lss_f hk))
    apply ops_step (oper_p rfl rfl rfl rfl)
    apply ops_step (oper_no rfl)
    apply ops_step (oper_no rfl)
    apply ops_step (oper_no rfl)
    apply ops_step (oper_p rfl rfl rfl rfl)
    rfl
  · apply keep_step rfl; apply cond_f rfl; rfl

set_option maxRecDepth 100000 in
theorem out_stop2 (hR : PolyL R rs) (hlt : k < rs.length) (hk : terms ≤ k) {s : St} (hs : AtM R deg terms k outD G s) : ∃ s', evCode E 1000 0 bMade s = some (.exit 0, s') ∧ getT s'.T 9 = some outD ∧ s'.H = boxR R :: G := by
  obtain ⟨sT, sH⟩ := s
  obtain ⟨hT, hH⟩ := hs
  simp only at hT hH
  subst hH
  unfold bMade
  dsimp only [x22, loopD, loopOf]
  refine ⟨⟨[(1, nI 2), (2, nI deg), (3, nI terms), (4, .one (.ptr 0 0 0 0)), (9, outD), (10, nI k), (24, .one (.p (.bool false)))], _⟩, ?_, rfl, rfl⟩
  apply keep_step hT
  apply seq_exit
  apply seq_region
  · apply ops_step (oper_p rfl rfl rfl rfl)
    apply ops_step (oper_p rfl rfl rfl rfl)
    apply ops_step (oper_r rfl rfl rfl rfl)
    apply ops_step (oper_p rfl rfl rfl (len_poly hR))
    apply ops_step (oper_p rfl rfl rfl (lss_t hlt))
    apply ops_step (oper_p rfl rfl rfl rfl)
    apply ops_step (oper_p rfl rfl rfl rfl)
    apply ops_step (oper_p rfl rfl rfl rfl)
    apply ops_step (oper_p rfl rfl rfl (lss_f hk))
    apply ops_step (oper_p rfl rfl rfl rfl)
    rfl
  · apply keep_step rfl; apply cond_f rfl; rfl

/-- The rounds from a pure value on. -/
theorem made_loop (hH : MadeH E) (hR : PolyL R rs) (hrs : ∀ c ∈ rs, RawRow c) (hd : deg ≤ 4) (ht : terms ≤ 5) : ∀ (N k : Nat) (es : List (List PL)) (G : List Blk) (s : St), terms < N + k → k ≤ terms → Good k es → AtM R deg terms k (.one (.p (.lst es))) G s →
    ∃ s' out G', loopN (fun s => evCode E 1000 0 bMade s) N s = some (.exit 0, s') ∧ getT s'.T 9 = some (.one (.p (.lst out))) ∧ s'.H = boxR R :: G' ∧ Good terms out
  | 0, k, es, G, s, hN, hk, hg, hs => by omega
  | N + 1, k, es, G, s, hN, hk, hg, hs => by
    by_cases h1 : rs.length ≤ k
    · obtain ⟨s', g1, g2, g3⟩ := out_stop1 (E := E) hR h1 hs
      exact ⟨s', es, G, loop_exit g1, g2, g3, hg.le hk⟩
    · by_cases h2 : terms ≤ k
      · obtain ⟨s', g1, g2, g3⟩ := out_stop2 (E := E) hR (by omega) h2 hs
        exact ⟨s', es, G, loop_exit g1, g2, g3, hg.le hk⟩
      · have hlt : k < rs.length := by omega
        obtain ⟨s1, out, G1, g1, g2, g3⟩ := round_L hH hR (List.getElem?_eq_getElem hlt) (hrs _ (List.getElem_mem hlt)) (by omega) hd (by omega) hg hs
        obtain ⟨s', out', G', k1, k2, k3, k4⟩ := made_loop hH hR hrs hd ht N (k + 1) out G1 s1 (by omega) (by omega) g3 g2
        exact ⟨s', out', G', by rw [loop_next g1]; exact k1, k2, k3, k4⟩

set_option maxRecDepth 100000 in
set_option maxHeartbeats 1000000 in
/-- Made, evaluated: some polynomial with small terms. -/
theorem made_ev (hH : MadeH E) (hR : PolyL R rs) (hrs : ∀ c ∈ rs, RawRow c) (hd : deg ≤ 4) (ht : terms ≤ 5) (ht0 : 0 < terms) : ∃ out, evPureF E 1000 x22 [.agg [R], .one (nL 2), .one (nL deg), .one (nL terms)] = some (.one (.lst out)) ∧ Good 5 out := by
  have hx : x22.body = .seq (.region false [⟨(some 4), (.box 25), [(.t 0)], none, []⟩, ⟨(some 8), .move, [(.c (.one .nilS))], none, []⟩]) (.seq (.region false [⟨(some 14), (.buildSlice 63 zTerm 0 []), [], none, []⟩, ⟨(some 9), .move, [(.t 14)], none, [0, 0]⟩])
      (.seq (.seq (.region false [⟨(some 10), .move, [(.c (.one (.int .i64 0)))], none, []⟩]) (.block 0 (.loop bMade))) (.keep [9] (.seq (.region false [⟨(some 73), .move, [(.t 9)], none, []⟩, ⟨(some 8), .move, [(.t 73)], none, [0, 0]⟩]) .ret)))) := rfl
  have hs0 : AtM R deg terms 0 (.one (.own 1 0 0 0)) [emptyT false] ⟨[(10, nI 0), (9, .one (.own 1 0 0 0)), (14, .one (.own 1 0 0 0)), (8, .one (.p .nilS)), (4, .one (.ptr 0 0 0 0)), (0, .agg [.p R]), (1, nI 2), (2, nI deg), (3, nI terms)], [boxR R, emptyT false]⟩ := ⟨rfl, rfl⟩
  have hloop : ∃ s' d out G', loopN (fun s => evCode E 1000 0 bMade s) 1000 ⟨[(10, nI 0), (9, .one (.own 1 0 0 0)), (14, .one (.own 1 0 0 0)), (8, .one (.p .nilS)), (4, .one (.ptr 0 0 0 0)), (0, .agg [.p R]), (1, nI 2), (2, nI deg), (3, nI terms)], [boxR R, emptyT false]⟩ = some (.exit 0, s') ∧ getT s'.T 9 = some d ∧ s'.H = boxR R :: G' ∧ freezeV1 (HFof (boxR R :: G')) d = some (.one (.lst out)) ∧ Good terms out := by
    by_cases h1 : rs.length ≤ 0
    · obtain ⟨s', g1, g2, g3⟩ := out_stop1 (E := E) hR h1 hs0
      exact ⟨s', _, [], _, loop_exit g1, g2, g3, rfl, Good.nil _⟩
    · have hlt : 0 < rs.length := by omega
      obtain ⟨s1, out, G1, g1, g2, g3⟩ := round_F hH hR (List.getElem?_eq_getElem hlt) (hrs _ (List.getElem_mem hlt)) ht0 hd rfl hs0
      obtain ⟨s', out', G', k1, k2, k3, k4⟩ := made_loop hH hR hrs hd ht 999 1 out G1 s1 (by omega) (by omega) g3 g2
      exact ⟨s', _, out', G', by rw [loop_next g1]; exact k1, k2, k3, rfl, k4⟩
  obtain ⟨⟨T1, H1⟩, d, out, G', g1, g2, g3, g4, g5⟩ := hloop
  simp only at g2 g3
  subst g3
  refine ⟨out, ?_, g5.le ht⟩
  have hb : evBody E 1000 x22 ([.agg [R], .one (nL 2), .one (nL deg), .one (nL terms)].map inj) [] = some ([d], ⟨[(8, d), (73, d), (9, d)], boxR R :: G'⟩) := by
    refine body_ret rfl ?_ rfl
    rw [hx]
    apply seq_region
    · apply ops_step (oper_yes rfl rfl rfl rfl)
      apply ops_step (oper_p rfl rfl rfl rfl); rfl
    apply seq_region
    · apply ops_step (oper_yes rfl rfl rfl rfl)
      apply ops_step (oper_p rfl rfl rfl rfl); rfl
    apply seq_normal
    · apply seq_region
      · apply ops_step (oper_p rfl rfl rfl rfl); rfl
      · exact block_exit (j := 0) g1
    · have hk : keepT T1 [9] = [(9, d)] := by simp only [keepT, g2]
      apply keep_step hk
      apply seq_region
      · apply ops_step (oper_p rfl rfl rfl rfl)
        apply ops_step (oper_p rfl rfl rfl rfl); rfl
      · rfl
  refine pureF_of (ps := [.one (.lst out)]) hb ?_
  simp only [mapO, g4]

end
end Go.Proofs.YthmlggklnfmidaaGreat
