/- The list of polynomials that raw numbers describe (the reference's List), on symbolic numbers. -/
import Derived.Test.YthmlggklnfmidaaGreatSymMade3
namespace Go.Proofs.YthmlggklnfmidaaGreat
open Go.Ev

def bList : XCode := loopD x21.body

structure AtL (L : PL) (v n : Nat) (ch : List (List DL)) (G : List Blk) (s : St) : Prop where
  T : keepT s.T [0, 1, 2, 3, 4, 11, 12] = [(0, .one (.p L)), (1, nI 2), (2, nI 2), (3, nI 3), (4, nI 2), (11, .one (.own 0 v 0 n)), (12, nI n)]
  H : s.H = ⟨false, v, 1, ch, false, 30⟩ :: G

section
variable {E : Oracle} {L : PL} {rs : List (List PL)} {v n : Nat} {ch : List (List DL)} {G : List Blk}

theorem call_4 {f b m : Nat} {h : HF} {x : List PL} {y z w : PL} {r : PV} (hm : isHeapCall E (.call f) = false) (hr : E.pure f [.agg x, .one y, .one z, .one w] = some r) : evOp E b (.call f) [.agg (x.map .p), .one (.p y), .one (.p z), .one (.p w)] h m = some ⟨inj r, [], [], []⟩ := by
  have h1 : ∀ q : PL, freezeV1 h (.one (.p q)) = some (.one q) := fun _ => rfl
  have h2 : ∀ q : PL, idsV h (.one (.p q)) = [] := fun _ => rfl
  simp only [evOp, evPure, mode_of hm, mapO, h1, h2, List.flatMap_cons, List.flatMap_nil]
  simp only [freezeV1, frzL_p, hr, idsV, idsL_p, List.append_nil, List.isEmpty_nil, Bool.true_or, cond_true]

set_option maxRecDepth 100000 in
set_option maxHeartbeats 1000000 in
theorem list_round (hM : isHeapCall E (.call 22) = false) (hL : PolyL L rs) {c : List PL} (hk : rs[n]? = some c) (hc : c.length = 1) (hn3 : n < 2) {p : List (List PL)} (hp : E.pure 22 [.agg c, .one (nL 2), .one (nL 2), .one (nL 3)] = some (.one (.lst p))) (hch : ch.length = n)
    {s : St} (hs : AtL L v n ch G s) : ∃ s', evCode E 1000 0 bList s = some (.normal, s') ∧ AtL L (v + 1) (n + 1) (ch ++ [[.p (.lst p)]]) (G ++ [⟨false, 0, 1, [[.p (.lst p)]], false, 30⟩]) s' := by
  have hlt : n < rs.length := (List.getElem?_eq_some_iff.1 hk).1
  have htk : c.take 1 = c := List.take_of_length_le (by omega)
  have hld : ∀ (b m : Nat) (h : HF), evOp E b (.load true 1) [.one (.p (.ref c))] h m = some (.pure (.agg (c.map .p))) := fun b m h => by rw [load_agg (by omega), htk]
  obtain ⟨sT, sH⟩ := s
  obtain ⟨hT, hH⟩ := hs
  simp only at hT hH
  subst hH
  unfold bList
  dsimp only [x21, loopD, loopOf]
  apply exN
  apply keep_step hT
  apply seq_normal
  · apply seq_region
    · apply ops_step (oper_p rfl rfl rfl rfl)
      apply ops_step (oper_p rfl rfl rfl rfl)
      apply ops_step (oper_p rfl rfl rfl (len_poly hL))
      apply ops_step (oper_p rfl rfl rfl (lss_t hlt))
      apply ops_step (oper_p rfl rfl rfl rfl)
      apply ops_step (oper_p rfl rfl rfl rfl)
      apply ops_step (oper_p rfl rfl rfl rfl)
      apply ops_step (oper_p rfl rfl rfl (lss_t hn3))
      apply ops_step (oper_p rfl rfl rfl rfl)
      rfl
    · apply keep_step (T' := [(0, .one (.p L)), (1, nI 2), (2, nI 2), (3, nI 3), (4, nI 2), (11, .one (.own 0 v 0 n)), (12, nI n), (22, .one (.p (.bool true)))]) rfl; apply cond_t rfl; rfl
  · apply keep_step (T' := [(0, .one (.p L)), (1, nI 2), (2, nI 2), (3, nI 3), (4, nI 2), (11, .one (.own 0 v 0 n)), (12, nI n)]) rfl
    apply seq_normal
    · apply block_normal
      apply just_region
      apply ops_step (oper_p rfl rfl rfl rfl)
      apply ops_step (oper_p rfl rfl rfl rfl)
      apply ops_step (oper_p rfl rfl rfl rfl)
      apply ops_step (oper_p rfl rfl rfl (idx_poly hL hk hc))
      apply ops_step (oper_p rfl rfl rfl (hld _ _ _))
      apply ops_step (oper_p rfl rfl rfl rfl)
      apply ops_step (oper_p rfl rfl rfl rfl)
      apply ops_step (oper_p rfl rfl rfl rfl)
      apply ops_step (oper_p rfl rfl (hpc hM) (call_4 hM hp))
      apply ops_step (oper_yes rfl rfl rfl (bs1o rfl))
      apply ops_step (oper_yes rfl rfl rfl (app1 (e := 30) (sz := 1) (bytes := 24) (v := v) (len := n) (ch := ch) (c := [.p (.lst p)]) (G := G) rfl hch (by simp [lim]; omega) (by omega)))
      apply ops_step (oper_p rfl rfl rfl rfl)
      rfl
    · apply just_region
      apply ops_step (oper_p rfl rfl rfl rfl)
      apply ops_step (oper_p rfl rfl rfl (add_n (x := n) (y := 1) (by omega)))
      apply ops_step (oper_p rfl rfl rfl rfl)
      rfl
  · constructor
    · rfl
    · rfl

set_option maxRecDepth 100000 in
theorem list_stop (hL : PolyL L rs) (hk : rs.length ≤ n ∨ (n < rs.length ∧ 2 ≤ n)) {s : St} (hs : AtL L v n ch G s) : ∃ s', evCode E 1000 0 bList s = some (.exit 0, s') ∧ getT s'.T 11 = some (.one (.own 0 v 0 n)) ∧ s'.H = ⟨false, v, 1, ch, false, 30⟩ :: G := by
  obtain ⟨sT, sH⟩ := s
  obtain ⟨hT, hH⟩ := hs
  simp only at hT hH
  subst hH
  unfold bList
  dsimp only [x21, loopD, loopOf]
  refine ⟨⟨[(0, .one (.p L)), (1, nI 2), (2, nI 2), (3, nI 3), (4, nI 2), (11, .one (.own 0 v 0 n)), (12, nI n), (22, .one (.p (.bool false)))], _⟩, ?_, rfl, rfl⟩
  apply keep_step hT
  apply seq_exit
  rcases hk with hk | ⟨hlt, hk⟩
  · apply seq_region
    · apply ops_step (oper_p rfl rfl rfl rfl)
      apply ops_step (oper_p rfl rfl rfl rfl)
      apply ops_step (oper_p rfl rfl rfl (len_poly hL))
      apply ops_step (oper_p rfl rfl rfl (lss_f hk))
      apply ops_step (oper_p rfl rfl rfl rfl)
      apply ops_step (oper_no rfl)
      apply ops_step (oper_no rfl)
      apply ops_step (oper_no rfl)
      apply ops_step (oper_p rfl rfl rfl rfl)
      rfl
    · apply keep_step rfl; apply cond_f rfl; rfl
  · apply seq_region
    · apply ops_step (oper_p rfl rfl rfl rfl)
      apply ops_step (oper_p rfl rfl rfl rfl)
      apply ops_step (oper_p rfl rfl rfl (len_poly hL))
      apply ops_step (oper_p rfl rfl rfl (lss_t hlt))
      apply ops_step (oper_p rfl rfl rfl rfl)
      apply ops_step (oper_p rfl rfl rfl rfl)
      apply ops_step (oper_p rfl rfl rfl rfl)
      apply ops_step (oper_p rfl rfl rfl (lss_f hk))
      apply ops_step (oper_p rfl rfl rfl rfl)
      rfl
    · apply keep_step rfl; apply cond_f rfl; rfl

/-- The row of a slice of polynomials. -/
def polyRow (p : List (List PL)) : List PL := [.lst p]

theorem list_loop (hM : isHeapCall E (.call 22) = false) (hL : PolyL L rs) (hrs : ∀ c ∈ rs, c.length = 1 ∧ ∃ p, E.pure 22 [.agg c, .one (nL 2), .one (nL 2), .one (nL 3)] = some (.one (.lst p)) ∧ Good 5 p) :
    ∀ (N v n : Nat) (ps : List (List (List PL))) (G : List Blk) (s : St), 2 < N + n → n ≤ 2 → ps.length = n → (∀ p ∈ ps, Good 5 p) → AtL L v n ((ps.map polyRow).map (·.map .p)) G s →
      ∃ (s' : St) (v' : Nat) (G' : List Blk) (ps' : List (List (List PL))), loopN (fun s => evCode E 1000 0 bList s) N s = some (.exit 0, s') ∧ getT s'.T 11 = some (.one (.own 0 v' 0 (ps'.map polyRow).length)) ∧ s'.H = ⟨false, v', 1, (ps'.map polyRow).map (·.map .p), false, 30⟩ :: G' ∧ ps'.length ≤ 2 ∧ ∀ p ∈ ps', Good 5 p
  | 0, v, n, ps, G, s, hN, hn, hl, hg, hs => by omega
  | N + 1, v, n, ps, G, s, hN, hn, hl, hg, hs => by
    by_cases h1 : rs.length ≤ n ∨ (n < rs.length ∧ 2 ≤ n)
    · obtain ⟨s', g1, g2, g3⟩ := list_stop (E := E) hL h1 hs
      exact ⟨s', v, G, ps, loop_exit g1, by rw [g2]; simp [hl], g3, by omega, hg⟩
    · have hlt : n < rs.length := by omega
      obtain ⟨hc, p, hp, hgp⟩ := hrs _ (List.getElem_mem hlt)
      obtain ⟨s1, g1, g2⟩ := list_round hM hL (List.getElem?_eq_getElem hlt) hc (by omega) hp (by simp [hl]) hs
      obtain ⟨s', v', G', ps', k1, k2, k3, k4, k5⟩ := list_loop hM hL hrs N (v + 1) (n + 1) (ps ++ [p]) (G ++ [⟨false, 0, 1, [[.p (.lst p)]], false, 30⟩]) s1 (by omega) (by omega) (by simp [hl]) (fun q hq => by
        rcases List.mem_append.1 hq with hq | hq
        · exact hg q hq
        · rw [List.mem_singleton.1 hq]; exact hgp) (by simpa [polyRow] using g2)
      exact ⟨s', v', G', ps', by rw [loop_next g1]; exact k1, k2, k3, k4, k5⟩

set_option maxRecDepth 100000 in
set_option maxHeartbeats 1000000 in
/-- List, evaluated. -/
theorem list_ev (hM : isHeapCall E (.call 22) = false) (hL : PolyL L rs) (hrs : ∀ c ∈ rs, c.length = 1 ∧ ∃ p, E.pure 22 [.agg c, .one (nL 2), .one (nL 2), .one (nL 3)] = some (.one (.lst p)) ∧ Good 5 p) :
    ∃ ps : List (List (List PL)), evPureF E 1000 x21 [.one L, .one (nL 2), .one (nL 2), .one (nL 3), .one (nL 2)] = some (.one (.lst (ps.map polyRow))) ∧ ps.length ≤ 2 ∧ ∀ p ∈ ps, Good 5 p := by
  have hx : x21.body = .seq (.region false [⟨(some 10), .move, [(.c (.one .nilS))], none, []⟩]) (.seq (.region false [⟨(some 13), (.buildSlice 30 [.nilS] 0 []), [], none, []⟩, ⟨(some 11), .move, [(.t 13)], none, [0, 0]⟩])
      (.seq (.seq (.region false [⟨(some 12), .move, [(.c (.one (.int .i64 0)))], none, []⟩]) (.block 0 (.loop bList))) (.keep [11] (.seq (.region false [⟨(some 36), .move, [(.t 11)], none, []⟩, ⟨(some 10), .move, [(.t 36)], none, [0, 0]⟩]) .ret)))) := rfl
  obtain ⟨⟨T1, H1⟩, v, G, ps, g1, g2, g3, g4, g5⟩ := list_loop hM hL hrs 1000 0 0 [] [] ⟨[(12, nI 0), (11, .one (.own 0 0 0 0)), (13, .one (.own 0 0 0 0)), (10, .one (.p .nilS)), (0, .one (.p L)), (1, nI 2), (2, nI 2), (3, nI 3), (4, nI 2)], [⟨false, 0, 1, [], false, 30⟩]⟩ (by omega) (by omega) rfl (fun _ h => by cases h) ⟨rfl, rfl⟩
  simp only at g2 g3
  subst g3
  refine ⟨ps, ?_, g4, g5⟩
  have hb : evBody E 1000 x21 ([.one L, .one (nL 2), .one (nL 2), .one (nL 3), .one (nL 2)].map inj) [] = some ([.one (.own 0 v 0 (ps.map polyRow).length)], ⟨[(10, .one (.own 0 v 0 (ps.map polyRow).length)), (36, .one (.own 0 v 0 (ps.map polyRow).length)), (11, .one (.own 0 v 0 (ps.map polyRow).length))], ⟨false, v, 1, (ps.map polyRow).map (·.map .p), false, 30⟩ :: G⟩) := by
    refine body_ret rfl ?_ rfl
    rw [hx]
    apply seq_region
    · apply ops_step (oper_p rfl rfl rfl rfl); rfl
    apply seq_region
    · apply ops_step (oper_yes rfl rfl rfl rfl)
      apply ops_step (oper_p rfl rfl rfl rfl); rfl
    apply seq_normal
    · apply seq_region
      · apply ops_step (oper_p rfl rfl rfl rfl); rfl
      · exact block_exit (j := 0) g1
    · have hk : keepT T1 [11] = [(11, .one (.own 0 v 0 (ps.map polyRow).length))] := by simp only [keepT, g2]
      apply keep_step hk
      apply seq_region
      · apply ops_step (oper_p rfl rfl rfl rfl)
        apply ops_step (oper_p rfl rfl rfl rfl); rfl
      · rfl
  refine pureF_of (ps := [.one (.lst (ps.map polyRow))]) hb ?_
  simp only [mapO, frz_own rfl]

end
end Go.Proofs.YthmlggklnfmidaaGreat
