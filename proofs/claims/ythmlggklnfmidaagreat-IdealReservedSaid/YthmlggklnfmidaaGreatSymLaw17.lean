/- The law IdealReserved, evaluated on every raw input (written by gen_symlaw17.py). -/
import Derived.Test.YthmlggklnfmidaaGreatSymRes
namespace Go.Proofs.YthmlggklnfmidaaGreat
open Go.Ev

theorem call_0 {E : Oracle} {f b m : Nat} {h : HF} {r : PV} (hm : isHeapCall E (.call f) = false) (hr : E.pure f [] = some r) : evOp E b (.call f) [] h m = some ⟨inj r, [], [], []⟩ := by
  simp only [evOp, evPure, mode_of hm, mapO, List.flatMap_nil, hr, List.isEmpty_nil, Bool.true_or, cond_true]

/-- A call with a fresh slice of one cell, and a plain answer. -/
theorem call_own1 {E : Oracle} {f b m t : Nat} {x : PL} {r : PV} (hm : isHeapCall E (.call f) = false) (hr : E.pure f [.one (.lst [[x]])] = some r) (hs : r.scalar = true) : evOp E b (.call f) [.one (.own 0 0 0 1)] (HFof [⟨false, 0, 1, [[.p x]], false, t⟩]) m = some ⟨inj r, [], [], [0]⟩ := by
  have h1 : freezeV1 (HFof [⟨false, 0, 1, [[.p x]], false, t⟩]) (.one (.own 0 0 0 1)) = some (.one (.lst [[x]])) := rfl
  have h2 : idsV (HFof [⟨false, 0, 1, [[.p x]], false, t⟩]) (.one (.own 0 0 0 1)) = [0] := rfl
  simp only [evOp, evPure, mode_of hm, mapO, h1, h2, hr, hs, List.flatMap_cons, List.flatMap_nil, List.append_nil, Bool.or_true, cond_true]

theorem scope_step {E : Oracle} {K b : Nat} {c : XCode} {s : St} {r : Option (Ex × St)} (k : evCode E K b c s = r) : evCode E K b (.scope c) s = r := by
  simp only [evCode]; exact k

section
variable {rows : List (List PL)} {l m p : PL}

set_option maxRecDepth 100000 in
theorem idx_ev {E : Oracle} {is : List PL → Prop} (hm : isHeapCall E (.call 57) = false) (hrows : ∀ c ∈ rows, ResT E c (is c)) (hl : rows.length < 500) : ∃ r : Int, evPureF E 1000 x99 [.one (.lst rows), .one fn7] = some (.one (.int .i64 r)) ∧ ((∃ j, r = .ofNat j ∧ ∃ c ∈ rows, is c) ∨ (r = -1 ∧ ∀ c ∈ rows, ¬ is c)) := by
  have hx : x99.body = .seq (.region false [⟨(some 4), .move, [(.c (.one (.int .i64 0)))], none, []⟩]) (.seq (.seq (.region false [⟨(some 6), .move, [(.t 0)], none, []⟩, ⟨(some 7), .len, [(.t 6)], none, [0]⟩, ⟨(some 8), .move, [(.c (.one (.int .i64 0)))], none, []⟩]) (.block 0 (.loop bIdx))) (.keep [] (.seq (.region false [⟨(some 4), .move, [(.c (.one (.int .i64 (-1))))], none, []⟩]) .ret))) := rfl
  rcases idx_loop hm hrows hl 1000 0 ⟨[(8, nI 0), (7, nI rows.length), (6, .one (.p (.lst rows))), (4, nI 0), (0, .one (.p (.lst rows))), (1, .one (.p fn7))], []⟩ (by omega) (by omega) ⟨rfl⟩ with ⟨⟨T1, H1⟩, j, g1, g2, g3⟩ | ⟨⟨T1, H1⟩, g1, g2⟩
  · simp only at g2
    refine ⟨.ofNat j, ?_, .inl ⟨j, rfl, by simpa using g3⟩⟩
    have hb : evBody E 1000 x99 ([.one (.lst rows), .one fn7].map inj) [] = some ([nI j], ⟨T1, H1⟩) := by
      refine body_ret rfl ?_ (show mapO (loadRes ⟨T1, H1⟩) [(4, none)] = _ by simp only [mapO, loadRes, g2])
      rw [hx]
      apply seq_region
      · apply ops_step (oper_p rfl rfl rfl rfl); rfl
      apply seq_ret
      apply seq_region
      · apply ops_step (oper_p rfl rfl rfl rfl)
        apply ops_step (oper_p rfl rfl rfl rfl)
        apply ops_step (oper_p rfl rfl rfl rfl); rfl
      · exact block_ret (j := 0) g1
    exact pureF_of (ps := [.one (.int .i64 (.ofNat j))]) hb rfl
  · refine ⟨-1, ?_, .inr ⟨rfl, by simpa using g2⟩⟩
    have hb : ∃ s, evBody E 1000 x99 ([.one (.lst rows), .one fn7].map inj) [] = some ([.one (.p (.int .i64 (-1)))], s) := by
      apply exB
      rotate_left
      rw [hx]
      apply seq_region
      · apply ops_step (oper_p rfl rfl rfl rfl); rfl
      apply seq_normal
      · apply seq_region
        · apply ops_step (oper_p rfl rfl rfl rfl)
          apply ops_step (oper_p rfl rfl rfl rfl)
          apply ops_step (oper_p rfl rfl rfl rfl); rfl
        · exact block_exit (j := 0) g1
      apply keep_step (T' := []) rfl
      apply seq_region
      · apply ops_step (oper_p rfl rfl rfl rfl); rfl
      · rfl
      · rfl
      · rfl
    obtain ⟨s, hb⟩ := hb
    exact pureF_of (ps := [.one (.int .i64 (-1))]) hb rfl

set_option maxRecDepth 100000 in
theorem con_t {j : Nat} (hI : (EV 23).pure 99 [.one (.lst rows), .one fn7] = some (.one (.int .i64 (.ofNat j)))) : (EV 24).pure 56 [.one (.lst rows), .one fn7] = some (.one (.bool true)) := by
  rw [EV_pure (n := 23) (xf := x56) rfl]
  have hb : ∃ s, evBody (EV 23) 1000 x56 ([.one (.lst rows), .one fn7].map inj) [] = some ([.one (.p (.bool true))], s) := by
    apply exB
    rotate_left
    dsimp only [x56]
    apply seq_region
    · apply ops_step (oper_p rfl rfl rfl rfl)
      rfl
    apply seq_region
    · apply ops_step (oper_p rfl rfl rfl rfl)
      apply ops_step (oper_p rfl rfl rfl rfl)
      apply ops_step (oper_p rfl rfl (hpc (EV_call rfl)) (call_one2 (EV_call rfl) hI))
      apply ops_step (oper_p rfl rfl rfl rfl)
      apply ops_step (oper_p rfl rfl rfl rfl)
      rfl
    · rfl
    · rfl
    · rfl
  obtain ⟨s, hb⟩ := hb
  exact pureF_of hb rfl

set_option maxRecDepth 100000 in
theorem con_f (hI : (EV 23).pure 99 [.one (.lst rows), .one fn7] = some (.one (.int .i64 (-1)))) : (EV 24).pure 56 [.one (.lst rows), .one fn7] = some (.one (.bool false)) := by
  rw [EV_pure (n := 23) (xf := x56) rfl]
  have hb : ∃ s, evBody (EV 23) 1000 x56 ([.one (.lst rows), .one fn7].map inj) [] = some ([.one (.p (.bool false))], s) := by
    apply exB
    rotate_left
    dsimp only [x56]
    apply seq_region
    · apply ops_step (oper_p rfl rfl rfl rfl)
      rfl
    apply seq_region
    · apply ops_step (oper_p rfl rfl rfl rfl)
      apply ops_step (oper_p rfl rfl rfl rfl)
      apply ops_step (oper_p rfl rfl (hpc (EV_call rfl)) (call_one2 (EV_call rfl) hI))
      apply ops_step (oper_p rfl rfl rfl rfl)
      apply ops_step (oper_p rfl rfl rfl rfl)
      rfl
    · rfl
    · rfl
    · rfl
  obtain ⟨s, hb⟩ := hb
  exact pureF_of hb rfl

set_option maxRecDepth 100000 in
theorem res_of {r : Bool} (hI : (EV 24).pure 56 [.one (.lst rows), .one fn7] = some (.one (.bool r))) : (EV 25).pure 27 [.one (.lst rows)] = some (.one (.bool r)) := by
  rw [EV_pure (n := 24) (xf := x27) rfl]
  have hb : ∃ s, evBody (EV 24) 1000 x27 ([.one (.lst rows)].map inj) [] = some ([.one (.p (.bool r))], s) := by
    apply exB
    rotate_left
    dsimp only [x27]
    apply seq_region
    · apply ops_step (oper_p rfl rfl rfl rfl)
      rfl
    apply seq_region
    · apply ops_step (oper_p rfl rfl rfl rfl)
      apply ops_step (oper_p rfl rfl (hpc (EV_call rfl)) (call_one2 (EV_call rfl) hI))
      apply ops_step (oper_p rfl rfl rfl rfl)
      rfl
    · rfl
    · rfl
    · rfl
  obtain ⟨s, hb⟩ := hb
  exact pureF_of hb rfl

/-- reserved, on a list of polynomials of small terms and the variable 7. -/
theorem reserved_ev {qs : List (List (List PL))} (hq : ∀ q ∈ qs, (∀ c ∈ q, T7 c) ∧ q.length < 500) (hl : qs.length < 500) : ∃ r, (EV 25).pure 27 [.one (.lst (qs.map polyRow))] = some (.one (.bool r)) ∧ (r = true ↔ ∃ q ∈ qs, term7 ∈ q) := by
  have hrows : ∀ c ∈ qs.map polyRow, ResT (EV 22) c (∃ es, c = polyRow es ∧ term7 ∈ es) := by
    intro c hc
    obtain ⟨q, hq1, rfl⟩ := List.mem_map.1 hc
    obtain ⟨r, h1, h2⟩ := res1_ev (hq q hq1).1 (hq q hq1).2
    refine ⟨.lst q, r, rfl, h1, ?_⟩
    rw [h2]
    constructor
    · exact fun h => ⟨q, rfl, h⟩
    · rintro ⟨es, he, h⟩
      simp only [polyRow, List.cons.injEq, PL.lst.injEq, and_true] at he
      rw [he]; exact h
  obtain ⟨r, g1, g2⟩ := idx_ev (E := EV 22) (EV_call rfl) hrows (by simpa using hl)
  rw [← EV_pure (n := 22) (f := 99) rfl] at g1
  rcases g2 with ⟨j, rfl, c, hc, es, rfl, h⟩ | ⟨rfl, hn⟩
  · refine ⟨true, res_of (con_t g1), ?_⟩
    obtain ⟨q, hq1, hq2⟩ := List.mem_map.1 hc
    simp only [polyRow, List.cons.injEq, PL.lst.injEq, and_true] at hq2
    subst hq2
    simp only [true_iff]
    exact ⟨q, hq1, h⟩
  · refine ⟨false, res_of (con_f g1), ?_⟩
    simp only [Bool.false_eq_true, false_iff]
    rintro ⟨q, hq1, hq2⟩
    exact hn _ (List.mem_map.2 ⟨q, hq1, rfl⟩) ⟨q, rfl, hq2⟩

theorem good7 {q : List (List PL)} (h : Good 5 q) : (∀ c ∈ q, T7 c) ∧ q.length < 500 := ⟨fun c hc => .inl (h.2 c hc), by have := h.1; omega⟩
theorem has7 {q : List (List PL)} (h : Has7 q) : (∀ c ∈ q, T7 c) ∧ q.length < 500 := ⟨h.2.1, by have := h.1; omega⟩
theorem good_no7 {q : List (List PL)} (h : Good 5 q) : ¬ term7 ∈ q := fun hm => by
  obtain ⟨z, m, h1, -⟩ := h.2 _ hm
  exact ints_ne7 z m h1.symm

theorem res_no {qs : List (List (List PL))} (hq : ∀ q ∈ qs, Good 5 q) (hl : qs.length < 500) : (EV 25).pure 27 [.one (.lst (qs.map polyRow))] = some (.one (.bool false)) := by
  obtain ⟨r, h1, h2⟩ := reserved_ev (fun q h => good7 (hq q h)) hl
  cases r with
  | false => exact h1
  | true =>
    obtain ⟨q, k1, k2⟩ := h2.1 rfl
    exact absurd k2 (good_no7 (hq q k1))
theorem res_yes {qs : List (List (List PL))} (hq : ∀ q ∈ qs, Good 5 q ∨ Has7 q) (hl : qs.length < 500) {o : List (List PL)} (ho : Has7 o) (hm : o ∈ qs) : (EV 25).pure 27 [.one (.lst (qs.map polyRow))] = some (.one (.bool true)) := by
  obtain ⟨r, h1, h2⟩ := reserved_ev (fun q h => (hq q h).elim good7 has7) hl
  rw [h2.2 ⟨o, hm, ho.2.2⟩] at h1
  exact h1

set_option maxRecDepth 100000 in
theorem meet1 (h1 : (EV 25).pure 27 [.one l] = some (.one (.bool true))) : (EV 26).pure 9 [.one l, .one m] = some (.tup [.one .nilS, .one (.int .i64 1)]) := by
  rw [EV_pure (n := 25) (xf := x9) rfl]
  have hb : ∃ s, evBody (EV 25) 1000 x9 ([.one l, .one m].map inj) [] = some ([.one (.p .nilS), .one (.p (.int .i64 1))], s) := by
    apply exB
    rotate_left
    dsimp only [x9]
    apply seq_region
    · apply ops_step (oper_p rfl rfl rfl rfl)
      apply ops_step (oper_p rfl rfl rfl rfl)
      rfl
    apply seq_ret
    apply seq_region
    · apply ops_step (oper_p rfl rfl rfl rfl)
      apply ops_step (oper_p rfl rfl (hpc (EV_call rfl)) (call_one1 (EV_call rfl) h1))
      apply ops_step (oper_p rfl rfl rfl rfl)
      apply ops_step (oper_no rfl)
      apply ops_step (oper_no rfl)
      apply ops_step (oper_p rfl rfl rfl rfl)
      rfl
    apply cond_t rfl
    apply seq_region
    · apply ops_step (oper_p rfl rfl rfl rfl)
      apply ops_step (oper_p rfl rfl rfl rfl)
      rfl
    · rfl
    · rfl
    · rfl
  obtain ⟨s, hb⟩ := hb
  exact pureF_of hb rfl

set_option maxRecDepth 100000 in
theorem meet2 (h1 : (EV 25).pure 27 [.one l] = some (.one (.bool false))) (h2 : (EV 25).pure 27 [.one m] = some (.one (.bool true))) : (EV 26).pure 9 [.one l, .one m] = some (.tup [.one .nilS, .one (.int .i64 1)]) := by
  rw [EV_pure (n := 25) (xf := x9) rfl]
  have hb : ∃ s, evBody (EV 25) 1000 x9 ([.one l, .one m].map inj) [] = some ([.one (.p .nilS), .one (.p (.int .i64 1))], s) := by
    apply exB
    rotate_left
    dsimp only [x9]
    apply seq_region
    · apply ops_step (oper_p rfl rfl rfl rfl)
      apply ops_step (oper_p rfl rfl rfl rfl)
      rfl
    apply seq_ret
    apply seq_region
    · apply ops_step (oper_p rfl rfl rfl rfl)
      apply ops_step (oper_p rfl rfl (hpc (EV_call rfl)) (call_one1 (EV_call rfl) h1))
      apply ops_step (oper_p rfl rfl rfl rfl)
      apply ops_step (oper_p rfl rfl rfl rfl)
      apply ops_step (oper_p rfl rfl (hpc (EV_call rfl)) (call_one1 (EV_call rfl) h2))
      apply ops_step (oper_p rfl rfl rfl rfl)
      rfl
    apply cond_t rfl
    apply seq_region
    · apply ops_step (oper_p rfl rfl rfl rfl)
      apply ops_step (oper_p rfl rfl rfl rfl)
      rfl
    · rfl
    · rfl
    · rfl
  obtain ⟨s, hb⟩ := hb
  exact pureF_of hb rfl

set_option maxRecDepth 100000 in
theorem quot1 (h1 : (EV 25).pure 27 [.one l] = some (.one (.bool true))) : (EV 26).pure 10 [.one l, .one p] = some (.tup [.one .nilS, .one (.int .i64 1)]) := by
  rw [EV_pure (n := 25) (xf := x10) rfl]
  have hb : ∃ s, evBody (EV 25) 1000 x10 ([.one l, .one p].map inj) [] = some ([.one (.p .nilS), .one (.p (.int .i64 1))], s) := by
    apply exB
    rotate_left
    dsimp only [x10]
    apply seq_region
    · apply ops_step (oper_p rfl rfl rfl rfl)
      apply ops_step (oper_p rfl rfl rfl rfl)
      rfl
    apply seq_ret
    apply seq_region
    · apply ops_step (oper_p rfl rfl rfl rfl)
      apply ops_step (oper_p rfl rfl (hpc (EV_call rfl)) (call_one1 (EV_call rfl) h1))
      apply ops_step (oper_p rfl rfl rfl rfl)
      apply ops_step (oper_no rfl)
      apply ops_step (oper_no rfl)
      apply ops_step (oper_no rfl)
      apply ops_step (oper_p rfl rfl rfl rfl)
      rfl
    apply keep_step rfl
    apply cond_t rfl
    apply seq_region
    · apply ops_step (oper_p rfl rfl rfl rfl)
      apply ops_step (oper_p rfl rfl rfl rfl)
      rfl
    · rfl
    · rfl
    · rfl
  obtain ⟨s, hb⟩ := hb
  exact pureF_of hb rfl

set_option maxRecDepth 100000 in
theorem quot2 (h1 : (EV 25).pure 27 [.one l] = some (.one (.bool false))) (h2 : (EV 25).pure 27 [.one (.lst [[p]])] = some (.one (.bool true))) : (EV 26).pure 10 [.one l, .one p] = some (.tup [.one .nilS, .one (.int .i64 1)]) := by
  rw [EV_pure (n := 25) (xf := x10) rfl]
  have hb : ∃ s, evBody (EV 25) 1000 x10 ([.one l, .one p].map inj) [] = some ([.one (.p .nilS), .one (.p (.int .i64 1))], s) := by
    apply exB
    rotate_left
    dsimp only [x10]
    apply seq_region
    · apply ops_step (oper_p rfl rfl rfl rfl)
      apply ops_step (oper_p rfl rfl rfl rfl)
      rfl
    apply seq_ret
    apply seq_region
    · apply ops_step (oper_p rfl rfl rfl rfl)
      apply ops_step (oper_p rfl rfl (hpc (EV_call rfl)) (call_one1 (EV_call rfl) h1))
      apply ops_step (oper_p rfl rfl rfl rfl)
      apply ops_step (oper_p rfl rfl rfl rfl)
      apply ops_step (oper_yes rfl rfl rfl rfl)
      apply ops_step (oper_r rfl rfl (hpc (EV_call rfl)) (call_own1 (EV_call rfl) h2 rfl))
      apply ops_step (oper_p rfl rfl rfl rfl)
      rfl
    apply keep_step rfl
    apply cond_t rfl
    apply seq_region
    · apply ops_step (oper_p rfl rfl rfl rfl)
      apply ops_step (oper_p rfl rfl rfl rfl)
      rfl
    · rfl
    · rfl
    · rfl
  obtain ⟨s, hb⟩ := hb
  exact pureF_of hb rfl

set_option maxRecDepth 100000 in
theorem sat1 (h1 : (EV 25).pure 27 [.one l] = some (.one (.bool true))) : (EV 26).pure 11 [.one l, .one p] = some (.tup [.one .nilS, .one (.int .i64 0), .one (.int .i64 1)]) := by
  rw [EV_pure (n := 25) (xf := x11) rfl]
  have hb : ∃ s, evBody (EV 25) 1000 x11 ([.one l, .one p].map inj) [] = some ([.one (.p .nilS), .one (.p (.int .i64 0)), .one (.p (.int .i64 1))], s) := by
    apply exB
    rotate_left
    dsimp only [x11]
    apply seq_region
    · apply ops_step (oper_p rfl rfl rfl rfl)
      apply ops_step (oper_p rfl rfl rfl rfl)
      apply ops_step (oper_p rfl rfl rfl rfl)
      rfl
    apply seq_ret
    apply seq_region
    · apply ops_step (oper_p rfl rfl rfl rfl)
      apply ops_step (oper_p rfl rfl (hpc (EV_call rfl)) (call_one1 (EV_call rfl) h1))
      apply ops_step (oper_p rfl rfl rfl rfl)
      apply ops_step (oper_no rfl)
      apply ops_step (oper_no rfl)
      apply ops_step (oper_no rfl)
      apply ops_step (oper_p rfl rfl rfl rfl)
      rfl
    apply keep_step rfl
    apply cond_t rfl
    apply seq_region
    · apply ops_step (oper_p rfl rfl rfl rfl)
      apply ops_step (oper_p rfl rfl rfl rfl)
      apply ops_step (oper_p rfl rfl rfl rfl)
      rfl
    · rfl
    · rfl
    · rfl
  obtain ⟨s, hb⟩ := hb
  exact pureF_of hb rfl

set_option maxRecDepth 100000 in
theorem sat2 (h1 : (EV 25).pure 27 [.one l] = some (.one (.bool false))) (h2 : (EV 25).pure 27 [.one (.lst [[p]])] = some (.one (.bool true))) : (EV 26).pure 11 [.one l, .one p] = some (.tup [.one .nilS, .one (.int .i64 0), .one (.int .i64 1)]) := by
  rw [EV_pure (n := 25) (xf := x11) rfl]
  have hb : ∃ s, evBody (EV 25) 1000 x11 ([.one l, .one p].map inj) [] = some ([.one (.p .nilS), .one (.p (.int .i64 0)), .one (.p (.int .i64 1))], s) := by
    apply exB
    rotate_left
    dsimp only [x11]
    apply seq_region
    · apply ops_step (oper_p rfl rfl rfl rfl)
      apply ops_step (oper_p rfl rfl rfl rfl)
      apply ops_step (oper_p rfl rfl rfl rfl)
      rfl
    apply seq_ret
    apply seq_region
    · apply ops_step (oper_p rfl rfl rfl rfl)
      apply ops_step (oper_p rfl rfl (hpc (EV_call rfl)) (call_one1 (EV_call rfl) h1))
      apply ops_step (oper_p rfl rfl rfl rfl)
      apply ops_step (oper_p rfl rfl rfl rfl)
      apply ops_step (oper_yes rfl rfl rfl rfl)
      apply ops_step (oper_r rfl rfl (hpc (EV_call rfl)) (call_own1 (EV_call rfl) h2 rfl))
      apply ops_step (oper_p rfl rfl rfl rfl)
      rfl
    apply keep_step rfl
    apply cond_t rfl
    apply seq_region
    · apply ops_step (oper_p rfl rfl rfl rfl)
      apply ops_step (oper_p rfl rfl rfl rfl)
      apply ops_step (oper_p rfl rfl rfl rfl)
      rfl
    · rfl
    · rfl
    · rfl
  obtain ⟨s, hb⟩ := hb
  exact pureF_of hb rfl

set_option maxRecDepth 100000 in
theorem elim1 (h1 : (EV 25).pure 27 [.one l] = some (.one (.bool true))) : (EV 26).pure 12 [.one l, .one m] = some (.tup [.one .nilS, .one (.int .i64 1)]) := by
  rw [EV_pure (n := 25) (xf := x12) rfl]
  have hb : ∃ s, evBody (EV 25) 1000 x12 ([.one l, .one m].map inj) [] = some ([.one (.p .nilS), .one (.p (.int .i64 1))], s) := by
    apply exB
    rotate_left
    dsimp only [x12]
    apply seq_region
    · apply ops_step (oper_p rfl rfl rfl rfl)
      apply ops_step (oper_p rfl rfl rfl rfl)
      rfl
    apply seq_ret
    apply seq_region
    · apply ops_step (oper_p rfl rfl rfl rfl)
      apply ops_step (oper_p rfl rfl (hpc (EV_call rfl)) (call_one1 (EV_call rfl) h1))
      rfl
    apply cond_t rfl
    apply seq_region
    · apply ops_step (oper_p rfl rfl rfl rfl)
      apply ops_step (oper_p rfl rfl rfl rfl)
      rfl
    · rfl
    · rfl
    · rfl
  obtain ⟨s, hb⟩ := hb
  exact pureF_of hb rfl

set_option maxRecDepth 100000 in
theorem pow1 (h1 : (EV 25).pure 27 [.one l] = some (.one (.bool true))) : (EV 26).pure 13 [.one p, .one l] = some (.tup [.one (.int .i64 0), .one (.int .i64 1)]) := by
  rw [EV_pure (n := 25) (xf := x13) rfl]
  have hb : ∃ s, evBody (EV 25) 1000 x13 ([.one p, .one l].map inj) [] = some ([.one (.p (.int .i64 0)), .one (.p (.int .i64 1))], s) := by
    apply exB
    rotate_left
    dsimp only [x13]
    apply seq_region
    · apply ops_step (oper_p rfl rfl rfl rfl)
      apply ops_step (oper_p rfl rfl rfl rfl)
      rfl
    apply scope_step
    apply seq_ret
    apply seq_region
    · apply ops_step (oper_p rfl rfl rfl rfl)
      apply ops_step (oper_p rfl rfl (hpc (EV_call rfl)) (call_one1 (EV_call rfl) h1))
      apply ops_step (oper_p rfl rfl rfl rfl)
      apply ops_step (oper_no rfl)
      apply ops_step (oper_no rfl)
      apply ops_step (oper_no rfl)
      apply ops_step (oper_p rfl rfl rfl rfl)
      rfl
    apply keep_step rfl
    apply cond_t rfl
    apply seq_region
    · apply ops_step (oper_p rfl rfl rfl rfl)
      apply ops_step (oper_p rfl rfl rfl rfl)
      rfl
    · rfl
    · rfl
    · rfl
  obtain ⟨s, hb⟩ := hb
  exact pureF_of hb rfl

set_option maxRecDepth 100000 in
theorem pow2 (h1 : (EV 25).pure 27 [.one l] = some (.one (.bool false))) (h2 : (EV 25).pure 27 [.one (.lst [[p]])] = some (.one (.bool true))) : (EV 26).pure 13 [.one p, .one l] = some (.tup [.one (.int .i64 0), .one (.int .i64 1)]) := by
  rw [EV_pure (n := 25) (xf := x13) rfl]
  have hb : ∃ s, evBody (EV 25) 1000 x13 ([.one p, .one l].map inj) [] = some ([.one (.p (.int .i64 0)), .one (.p (.int .i64 1))], s) := by
    apply exB
    rotate_left
    dsimp only [x13]
    apply seq_region
    · apply ops_step (oper_p rfl rfl rfl rfl)
      apply ops_step (oper_p rfl rfl rfl rfl)
      rfl
    apply scope_step
    apply seq_ret
    apply seq_region
    · apply ops_step (oper_p rfl rfl rfl rfl)
      apply ops_step (oper_p rfl rfl (hpc (EV_call rfl)) (call_one1 (EV_call rfl) h1))
      apply ops_step (oper_p rfl rfl rfl rfl)
      apply ops_step (oper_p rfl rfl rfl rfl)
      apply ops_step (oper_yes rfl rfl rfl rfl)
      apply ops_step (oper_r rfl rfl (hpc (EV_call rfl)) (call_own1 (EV_call rfl) h2 rfl))
      apply ops_step (oper_p rfl rfl rfl rfl)
      rfl
    apply keep_step rfl
    apply cond_t rfl
    apply seq_region
    · apply ops_step (oper_p rfl rfl rfl rfl)
      apply ops_step (oper_p rfl rfl rfl rfl)
      rfl
    · rfl
    · rfl
    · rfl
  obtain ⟨s, hb⟩ := hb
  exact pureF_of hb rfl

end

end Go.Proofs.YthmlggklnfmidaaGreat
