/- The sum of two polynomials (the reference's Add): the whole function, on symbolic terms. -/
import Derived.Test.YthmlggklnfmidaaGreatSymAdd
namespace Go.Proofs.YthmlggklnfmidaaGreat
open Go.Ev

/-- What Add answers, by what its calls answer. -/
inductive AddR (E : Oracle) : List (List PL) → List (List PL) → List (List PL) → Prop
  | nil : AddR E [] [] []
  | leftE {c es out} (hc : c.length = 12) (t : AddR E es [] out) : AddR E (c :: es) [] (c :: out)
  | leftC {c es d fs out} (hc : c.length = 12) (hd : d.length = 12) (hz : E.pure 24 [.agg ((c.drop 4).take 8), .agg ((d.drop 4).take 8)] = some (.one (.int .i64 1))) (t : AddR E es (d :: fs) out) : AddR E (c :: es) (d :: fs) (c :: out)
  | rightE {d fs out} (hd : d.length = 12) (t : AddR E [] fs out) : AddR E [] (d :: fs) (d :: out)
  | rightC {c es d fs out} (hc : c.length = 12) (hd : d.length = 12) (hz : E.pure 24 [.agg ((c.drop 4).take 8), .agg ((d.drop 4).take 8)] = some (.one (.int .i64 (-1)))) (t : AddR E (c :: es) fs out) : AddR E (c :: es) (d :: fs) (d :: out)
  | both {c es d fs out s4 g} (hc : c.length = 12) (hd : d.length = 12) (hz : E.pure 24 [.agg ((c.drop 4).take 8), .agg ((d.drop 4).take 8)] = some (.one (.int .i64 0)))
      (hs4 : E.pure 25 [.agg ((c.drop 0).take 4), .agg ((d.drop 0).take 4)] = some (.agg s4)) (hsl : s4.length = 4) (hsg : E.pure 26 [.agg s4] = some (.one (.int .i64 g))) (hg : g ≠ 0) (t : AddR E es fs out) : AddR E (c :: es) (d :: fs) ((s4 ++ (c.drop 4).take 8) :: out)
  | cancel {c es d fs out s4} (hc : c.length = 12) (hd : d.length = 12) (hz : E.pure 24 [.agg ((c.drop 4).take 8), .agg ((d.drop 4).take 8)] = some (.one (.int .i64 0)))
      (hs4 : E.pure 25 [.agg ((c.drop 0).take 4), .agg ((d.drop 0).take 4)] = some (.agg s4)) (hsl : s4.length = 4) (hsg : E.pure 26 [.agg s4] = some (.one (.int .i64 0))) (t : AddR E es fs out) : AddR E (c :: es) (d :: fs) out

section
variable {E : Oracle} {K b m n : Nat} {h : HF} {L0 L1 : PL} {es fs : List (List PL)} {v i k : Nat} {ch : List (List DL)} {G : List Blk}

set_option maxRecDepth 100000 in
theorem add_stop (h0 : PolyL L0 es) (h1 : PolyL L1 fs) (hi : i = es.length) (hk : k = fs.length) {s : St} (hs : AtA L0 L1 v n i k ch G s) :
    ∃ s', evCode E K 0 bAdd s = some (.exit 0, s') ∧ getT s'.T 5 = some (.one (.own 0 v 0 n)) ∧ s'.H = s.H := by
  obtain ⟨sT, sH⟩ := s
  obtain ⟨hT, hH⟩ := hs
  simp only at hT hH
  subst hH
  unfold bAdd
  dsimp only [x8, loopD, loopOf]
  refine ⟨⟨[(0, .one (.p L0)), (1, .one (.p L1)), (5, .one (.own 0 v 0 n)), (6, .one (.p (.int .i64 (.ofNat i)))), (7, .one (.p (.int .i64 (.ofNat k)))), (19, .one (.p (.bool false)))], _⟩, ?_, rfl, rfl⟩
  apply keep_step hT
  apply seq_exit
  apply seq_region
  · apply ops_step (oper_p rfl rfl rfl rfl)
    apply ops_step (oper_p rfl rfl rfl rfl)
    apply ops_step (oper_p rfl rfl rfl (len_poly h0))
    apply ops_step (oper_p rfl rfl rfl (lss_f (by omega)))
    apply ops_step (oper_p rfl rfl rfl rfl)
    apply ops_step (oper_p rfl rfl rfl rfl)
    apply ops_step (oper_p rfl rfl rfl rfl)
    apply ops_step (oper_p rfl rfl rfl (len_poly h1))
    apply ops_step (oper_p rfl rfl rfl (lss_f (by omega)))
    apply ops_step (oper_p rfl rfl rfl rfl)
    rfl
  · apply keep_step rfl; apply cond_f rfl; rfl

theorem drop_cons {α : Type} {l : List α} {i : Nat} {x : α} {xs : List α} (h : l.drop i = x :: xs) : l[i]? = some x ∧ l.drop (i + 1) = xs ∧ i < l.length := by
  have hlt : i < l.length := by
    rcases Nat.lt_or_ge i l.length with h1 | h1
    · exact h1
    · rw [List.drop_eq_nil_of_le h1] at h; cases h
  rw [List.drop_eq_getElem_cons hlt] at h
  simp only [List.cons.injEq] at h
  exact ⟨by rw [List.getElem?_eq_getElem hlt, h.1], h.2, hlt⟩

theorem drop_nil {α : Type} {l : List α} {i : Nat} (h : l.drop i = []) (hi : i ≤ l.length) : i = l.length := by
  have := congrArg List.length h
  simp at this; omega

theorem loop_next {f : St → Option (Ex × St)} {N : Nat} {s s' : St} (h : f s = some (.normal, s')) : loopN f (N + 1) s = loopN f N s' := by
  simp only [loopN, h]
theorem loop_exit {f : St → Option (Ex × St)} {N j : Nat} {s s' : St} (h : f s = some (.exit j, s')) : loopN f (N + 1) s = some (.exit j, s') := by
  simp only [loopN, h]

theorem add_loop (hM : AddM E) (h0 : PolyL L0 es) (h1 : PolyL L1 fs) (hel : es.length < 400) (hfl : fs.length < 400) {es' fs' out : List (List PL)} (hr : AddR E es' fs' out) :
    ∀ (N i k v n : Nat) (ch : List (List DL)) (G : List Blk) (s : St), es'.length + fs'.length < N → i ≤ es.length → k ≤ fs.length → es.drop i = es' → fs.drop k = fs' → ch.length = n → n ≤ i + k → AtA L0 L1 v n i k ch G s →
      ∃ s' v' G', loopN (fun s => evCode E K 0 bAdd s) N s = some (.exit 0, s') ∧ getT s'.T 5 = some (.one (.own 0 v' 0 (n + out.length))) ∧ s'.H = ⟨false, v', 12, ch ++ out.map (·.map .p), false, 63⟩ :: G' := by
  induction hr with
  | nil =>
    intro N i k v n ch G s hN hil hkl hei hfk hch hnb hs
    obtain ⟨N, rfl⟩ : ∃ M, N = M + 1 := ⟨N - 1, by simp at hN; omega⟩
    obtain ⟨s', h2, h3, h4⟩ := add_stop (E := E) (K := K) h0 h1 (drop_nil hei hil) (drop_nil hfk hkl) hs
    exact ⟨s', v, G, loop_exit h2, by simpa using h3, by rw [h4, hs.H]; simp⟩
  | @leftE c es' out hc t ih =>
    intro N i k v n ch G s hN hil hkl hei hfk hch hnb hs
    obtain ⟨N, rfl⟩ : ∃ M, N = M + 1 := ⟨N - 1, by simp at hN; omega⟩
    obtain ⟨e1, e2, e3⟩ := drop_cons hei
    obtain ⟨s1, h2, h3⟩ := add_left_end (K := K) hM h0 h1 e1 hc (drop_nil hfk hkl) hch (by omega) (by omega) (by omega) hs
    obtain ⟨s', v', G', g1, g2, g3⟩ := ih N (i + 1) k _ _ _ _ s1 (by simp at hN ⊢; omega) (by omega) hkl e2 hfk (by simp [hch]) (by omega) h3
    exact ⟨s', v', G', by rw [loop_next h2]; exact g1, by rw [g2]; simp; omega, by rw [g3]; simp⟩
  | @leftC c es' d fs' out hc hd hz t ih =>
    intro N i k v n ch G s hN hil hkl hei hfk hch hnb hs
    obtain ⟨N, rfl⟩ : ∃ M, N = M + 1 := ⟨N - 1, by simp at hN; omega⟩
    obtain ⟨e1, e2, e3⟩ := drop_cons hei
    obtain ⟨f1, f2, f3⟩ := drop_cons hfk
    obtain ⟨s1, h2, h3⟩ := add_left_cmp (K := K) hM h0 h1 e1 hc f1 hd hz hch (by omega) (by omega) (by omega) hs
    obtain ⟨s', v', G', g1, g2, g3⟩ := ih N (i + 1) k _ _ _ _ s1 (by simp at hN ⊢; omega) (by omega) hkl e2 hfk (by simp [hch]) (by omega) h3
    exact ⟨s', v', G', by rw [loop_next h2]; exact g1, by rw [g2]; simp; omega, by rw [g3]; simp⟩
  | @rightE d fs' out hd t ih =>
    intro N i k v n ch G s hN hil hkl hei hfk hch hnb hs
    obtain ⟨N, rfl⟩ : ∃ M, N = M + 1 := ⟨N - 1, by simp at hN; omega⟩
    obtain ⟨f1, f2, f3⟩ := drop_cons hfk
    obtain ⟨s1, h2, h3⟩ := add_right_end (K := K) hM h0 h1 f1 hd (drop_nil hei hil) hch (by omega) (by omega) (by omega) hs
    obtain ⟨s', v', G', g1, g2, g3⟩ := ih N i (k + 1) _ _ _ _ s1 (by simp at hN ⊢; omega) hil (by omega) hei f2 (by simp [hch]) (by omega) h3
    exact ⟨s', v', G', by rw [loop_next h2]; exact g1, by rw [g2]; simp; omega, by rw [g3]; simp⟩
  | @rightC c es' d fs' out hc hd hz t ih =>
    intro N i k v n ch G s hN hil hkl hei hfk hch hnb hs
    obtain ⟨N, rfl⟩ : ∃ M, N = M + 1 := ⟨N - 1, by simp at hN; omega⟩
    obtain ⟨e1, e2, e3⟩ := drop_cons hei
    obtain ⟨f1, f2, f3⟩ := drop_cons hfk
    obtain ⟨s1, h2, h3⟩ := add_right_cmp (K := K) hM h0 h1 e1 hc f1 hd hz hch (by omega) (by omega) (by omega) hs
    obtain ⟨s', v', G', g1, g2, g3⟩ := ih N i (k + 1) _ _ _ _ s1 (by simp at hN ⊢; omega) hil (by omega) hei f2 (by simp [hch]) (by omega) h3
    exact ⟨s', v', G', by rw [loop_next h2]; exact g1, by rw [g2]; simp; omega, by rw [g3]; simp⟩
  | @both c es' d fs' out s4 g hc hd hz hs4 hsl hsg hg t ih =>
    intro N i k v n ch G s hN hil hkl hei hfk hch hnb hs
    obtain ⟨N, rfl⟩ : ∃ M, N = M + 1 := ⟨N - 1, by simp at hN; omega⟩
    obtain ⟨e1, e2, e3⟩ := drop_cons hei
    obtain ⟨f1, f2, f3⟩ := drop_cons hfk
    obtain ⟨s1, h2, h3⟩ := add_both (K := K) hM h0 h1 e1 hc f1 hd hz hs4 hsl hsg hg hch (by omega) (by omega) (by omega) hs
    obtain ⟨s', v', G', g1, g2, g3⟩ := ih N (i + 1) (k + 1) _ _ _ _ s1 (by simp at hN ⊢; omega) (by omega) (by omega) e2 f2 (by simp [hch]) (by omega) h3
    exact ⟨s', v', G', by rw [loop_next h2]; exact g1, by rw [g2]; simp; omega, by rw [g3]; simp⟩
  | @cancel c es' d fs' out s4 hc hd hz hs4 hsl hsg t ih =>
    intro N i k v n ch G s hN hil hkl hei hfk hch hnb hs
    obtain ⟨N, rfl⟩ : ∃ M, N = M + 1 := ⟨N - 1, by simp at hN; omega⟩
    obtain ⟨e1, e2, e3⟩ := drop_cons hei
    obtain ⟨f1, f2, f3⟩ := drop_cons hfk
    obtain ⟨s1, h2, h3⟩ := add_cancel (K := K) hM h0 h1 e1 hc f1 hd hz hs4 hsl hsg hch (by omega) (by omega) (by omega) hs
    obtain ⟨s', v', G', g1, g2, g3⟩ := ih N (i + 1) (k + 1) _ _ _ _ s1 (by simp at hN ⊢; omega) (by omega) (by omega) e2 f2 hch (by omega) h3
    exact ⟨s', v', G', by rw [loop_next h2]; exact g1, g2, g3⟩

theorem frz_chunks : ∀ (es : List (List PL)), mapO (mapO (freezeL 5 h)) (es.map (·.map .p)) = some es
  | [] => rfl
  | c :: es => by
    have h1 : mapO (freezeL 5 h) (c.map .p) = some c := by
      induction c with
      | nil => rfl
      | cons x c ih => simp only [List.map_cons, mapO, ih]; rfl
    simp only [List.map_cons, mapO, h1, frz_chunks es]

theorem frz_own {b : Blk} {v : Nat} {es : List (List PL)} {t sz : Nat} {G : List Blk} (hb : b = ⟨false, v, sz, es.map (·.map .p), false, t⟩) : freezeV1 (HFof (b :: G)) (.one (.own 0 v 0 es.length)) = some (.one (.lst es)) := by
  subst hb
  have e1 : Nat.ble (0 + es.length) (es.map (·.map DL.p)).length = true := ble_t (by simp)
  have h0 : HFof ((⟨false, v, sz, es.map (·.map .p), false, t⟩ : Blk) :: G) 0 = some ⟨false, v, sz, es.map (·.map .p), false, t⟩ := rfl
  have e2 : ((es.map (·.map DL.p)).drop 0).take es.length = es.map (·.map DL.p) := by rw [List.drop_zero, List.take_of_length_le (by simp)]
  simp only [freezeV1, freezeDepth, freezeL, h0, Nat.beq_refl, Bool.not_false, Bool.and_self, e1, cond_true, e2, frz_chunks]

set_option maxRecDepth 100000 in
set_option maxHeartbeats 1000000 in
/-- Add, evaluated. -/
theorem add_ev (hM : AddM E) (h0 : PolyL L0 es) (h1 : PolyL L1 fs) (hel : es.length < 400) (hfl : fs.length < 400) {out : List (List PL)} (hr : AddR E es fs out) : evPureF E 1000 x8 [.one L0, .one L1] = some (.one (.lst out)) := by
  have hbody : ∃ s v G, evCode E 1000 0 x8.body ⟨[(0, .one (.p L0)), (1, .one (.p L1))], []⟩ = some (.ret, s) ∧ getT s.T 4 = some (.one (.own 0 v 0 out.length)) ∧ s.H = ⟨false, v, 12, out.map (·.map .p), false, 63⟩ :: G := by
    have hloop : ∀ s, AtA L0 L1 0 0 0 0 [] [] s → _ := fun s hs => add_loop (K := 1000) hM h0 h1 hel hfl hr 1000 0 0 0 0 [] [] s (by omega) (by omega) (by omega) rfl rfl rfl (by omega) hs
    have hx : x8.body = .seq (.region false [⟨(some 4), .move, [(.c (.one .nilS))], none, []⟩]) (.seq (.region false [⟨(some 9), (.buildSlice 63 zTerm 0 []), [], none, []⟩, ⟨(some 5), .move, [(.t 9)], none, [0, 0]⟩])
        (.seq (.region false [⟨(some 6), .move, [(.c (.one (.int .i64 0)))], none, []⟩, ⟨(some 7), .move, [(.c (.one (.int .i64 0)))], none, [0, 0]⟩]) (.seq (.block 0 (.loop bAdd)) (.keep [5] (.seq (.region false [⟨(some 108), .move, [(.t 5)], none, []⟩, ⟨(some 4), .move, [(.t 108)], none, [0, 0]⟩]) .ret))))) := rfl
    rw [hx]
    obtain ⟨s1, v, G, g1, g2, g3⟩ := hloop ⟨[(7, .one (.p (.int .i64 0))), (6, .one (.p (.int .i64 0))), (5, .one (.own 0 0 0 0)), (9, .one (.own 0 0 0 0)), (4, .one (.p .nilS)), (0, .one (.p L0)), (1, .one (.p L1))], [⟨false, 0, 12, [], false, 63⟩]⟩ ⟨rfl, rfl⟩
    obtain ⟨T1, H1⟩ := s1
    simp only at g2 g3
    refine ⟨⟨[(4, .one (.own 0 v 0 out.length)), (108, .one (.own 0 v 0 out.length)), (5, .one (.own 0 v 0 out.length))], H1⟩, v, G, ?_, rfl, by simpa using g3⟩
    apply seq_region
    · apply ops_step (oper_p rfl rfl rfl rfl); rfl
    apply seq_region
    · apply ops_step (oper_yes rfl rfl rfl rfl)
      apply ops_step (oper_p rfl rfl rfl rfl); rfl
    apply seq_region
    · apply ops_step (oper_p rfl rfl rfl rfl)
      apply ops_step (oper_p rfl rfl rfl rfl); rfl
    apply seq_normal (s1 := ⟨T1, H1⟩)
    · exact block_exit (j := 0) g1
    · have hk : keepT T1 [5] = [(5, .one (.own 0 v 0 out.length))] := by simp only [keepT, g2, Nat.zero_add]
      apply keep_step hk
      apply seq_region
      · apply ops_step (oper_p rfl rfl rfl rfl)
        apply ops_step (oper_p rfl rfl rfl rfl); rfl
      · rfl
  obtain ⟨s, v, G, g1, g2, g3⟩ := hbody
  have hb : evBody E 1000 x8 ([.one L0, .one L1].map inj) [] = some ([.one (.own 0 v 0 out.length)], s) := by
    refine body_ret rfl g1 ?_
    show mapO (loadRes s) [(4, none)] = _
    simp only [mapO, loadRes, g2]
  refine pureF_of (ps := [.one (.lst out)]) hb ?_
  rw [g3]
  simp only [mapO, frz_own rfl]

end
end Go.Proofs.YthmlggklnfmidaaGreat
