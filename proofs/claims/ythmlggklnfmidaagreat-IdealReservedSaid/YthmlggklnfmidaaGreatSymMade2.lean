/- The polynomial that raw numbers describe (the reference's Made): one round of the outer loop (written by gen_symmade2.py). -/
import Derived.Test.YthmlggklnfmidaaGreatSymMade
namespace Go.Proofs.YthmlggklnfmidaaGreat
open Go.Ev

/-- The state at the head of the outer loop. -/
structure AtM (R : PL) (deg terms k : Nat) (outD : DV) (G : List Blk) (s : St) : Prop where
  T : keepT s.T [1, 2, 3, 4, 9, 10] = [(1, nI 2), (2, nI deg), (3, nI terms), (4, .one (.ptr 0 0 0 0)), (9, outD), (10, nI k)]
  H : s.H = boxR R :: G

def tblkF (fz : Bool) (c : List PL) : Blk := ⟨fz, 0, 12, [c.map .p], false, 63⟩

theorem store_mono {E : Oracle} {n : Nat} {x : Blk} {G : List Blk} {cs : List DL} (hc : cs.length = 8) : evOp E 0 (.store 8) [.one (.ptr (G.length + 1) 0 0 0), .agg cs] (HFof (x :: (G ++ [⟨false, 0, 8, [[.p (.int .i64 0), .p (.int .i64 0), .p (.int .i64 0), .p (.int .i64 0), .p (.int .i64 0), .p (.int .i64 0), .p (.int .i64 0), .p (.int .i64 0)]], false, 55⟩]))) n =
    some ⟨.tup [], [], [(G.length + 1, ⟨false, 0, 8, [cs], false, 55⟩)], [G.length + 1]⟩ := store_end rfl rfl hc

theorem load_mono {E : Oracle} {b n : Nat} {x : Blk} {G : List Blk} {y0 y1 y2 y3 y4 y5 y6 y7 : PL} : evOp E b (.load true 8) [.one (.ptr (G.length + 1) 0 0 0)] (HFof (x :: (G ++ [blkM [y0, y1, y2, y3, y4, y5, y6, y7]]))) n = some ⟨.agg [.p y0, .p y1, .p y2, .p y3, .p y4, .p y5, .p y6, .p y7], [], [], [G.length + 1]⟩ := load_end rfl

theorem fresh_eq {x : Blk} {G : List Blk} {u1 ms : List PL} : (x :: G) ++ [(⟨false, 0, 12, [u1.map DL.p ++ ms.map DL.p], false, 63⟩ : Blk)] = x :: (G ++ [⟨false, 0, 12, [(u1 ++ ms).map .p], false, 63⟩]) := by
  rw [List.map_append]; rfl

theorem call_ownG {E : Oracle} {b n f : Nat} {h : Nat → Option Blk} {L : PL} {m sz : Nat} {r : PV} (hm : isHeapCall E (.call f) = false) (h1 : h 1 = some ⟨false, 0, sz, [], false, m⟩) (hr : E.pure f [.one (.lst []), .one L] = some r) (hs : r.scalar = false) :
    evOp E b (.call f) [.one (.own 1 0 0 0), .one (.p L)] h n = some ⟨inj r, [], [(1, ⟨true, 0, sz, [], false, m⟩)], [1]⟩ := by
  have hf : freezeV1 h (.one (.own 1 0 0 0)) = some (.one (.lst [])) := by
    simp only [freezeV1, freezeDepth, freezeL, h1]; rfl
  have hi : idsV h (.one (.own 1 0 0 0)) = [1] := by
    simp only [idsV, freezeDepth, idsL, h1]; rfl
  have hf2 : freezeV1 h (.one (.p L)) = some (.one L) := rfl
  have hi2 : idsV h (.one (.p L)) = [] := rfl
  simp only [evOp, evPure, mode_of hm, mapO, hf, hf2, hr, List.flatMap_cons, List.flatMap_nil, hi, hi2, List.append_nil, hs, List.isEmpty_cons, Bool.or_self, cond_false, List.filterMap_cons, h1, Option.map_some, List.filterMap_nil]

def emptyT (fz : Bool) : Blk := ⟨fz, 0, 12, [], false, 63⟩

theorem own_at {x : Blk} {G : List Blk} (y z : Blk) (hG : G[0]? = some (emptyT false)) : HFof (x :: (G ++ [y] ++ [z])) 1 = some ⟨false, 0, 12, [], false, 63⟩ := by
  cases G with
  | nil => cases hG
  | cons g G => simp only [List.getElem?_cons_zero, Option.some.injEq] at hG; subst hG; rfl

section
variable {E : Oracle} {R L : PL} {rs : List (List PL)} {deg terms k t1 t2 t3 : Nat} {outD : DV} {G : List Blk} {a0 a1 a2 a3 a4 c : Int} {u u1 : List PL} {es out : List (List PL)}

set_option maxRecDepth 100000 in
set_option maxHeartbeats 2000000 in
theorem out_LN (hM : MadeM E) (hR : PolyL R rs) (hk : rs[k]? = some (raw5 a0 a1 a2 a3 a4)) (hkt : k < terms) (h1 : E.pure 50 [.one (.int .i8 a1)] = some (.one (nL t1))) (h2 : E.pure 50 [.one (.int .i8 a2)] = some (.one (nL t2))) (h3 : E.pure 50 [.one (.int .i8 a3)] = some (.one (nL t3))) (hd : deg < 1000) (hkb : k < 1000)
    (hw : wrapF .i64 (Int.tmod a0 4) = c) (hwc : E.pure 23 [.one (.int .i64 c)] = some (.agg u)) (hw1 : E.pure 23 [.one (.int .i64 1)] = some (.agg u1)) (hul : u1.length = 4)
    (hsc : E.pure 46 [.agg u, .one (.lst [u1 ++ [nL (e0 deg t1), nL (e1 deg t1 t2), nL (e2 deg t1 t2 t3), nL 0, nL 0, nL 0, nL 0, nL 0]])] = some (.one L)) (hLs : (PV.one L).scalar = false) (hadd : E.pure 8 [.one (.lst es), .one L] = some (.one (.lst out)))
    {s : St} (hs : AtM R deg terms k (.one (.p (.lst es))) G s) :
    ∃ s', evCode E 1000 0 bMade s = some (.normal, s') ∧ AtM R deg terms (k + 1) (.one (.p (.lst out))) (G ++ [blkM [nL (e0 deg t1), nL (e1 deg t1 t2), nL (e2 deg t1 t2 t3), nL 0, nL 0, nL 0, nL 0, nL 0]] ++ [tblkF true (u1 ++ [nL (e0 deg t1), nL (e1 deg t1 t2), nL (e2 deg t1 t2 t3), nL 0, nL 0, nL 0, nL 0, nL 0])]) s' := by
  have hlt : k < rs.length := (List.getElem?_eq_some_iff.1 hk).1
  obtain ⟨sT, sH⟩ := s
  obtain ⟨hT, hH⟩ := hs
  simp only at hT hH
  subst hH
  unfold bMade
  dsimp only [x22, loopD, loopOf]
  apply exN
  apply keep_step hT
  apply seq_normal
  · apply seq_region
    · apply ops_step (oper_p rfl rfl rfl rfl)
      apply ops_step (oper_p rfl rfl rfl rfl)
      apply ops_step (oper_r rfl rfl rfl rfl)
      apply ops_step (oper_p rfl rfl rfl (len_poly hR))
      apply ops_step (oper_p rfl rfl rfl (lss_t hlt))
      apply ops_step (oper_p rfl rfl rfl rfl)
      apply ops_step (oper_p rfl rfl rfl rfl)
      apply ops_step (oper_p rfl rfl rfl rfl)
      apply ops_step (oper_p rfl rfl rfl (lss_t hkt))
      apply ops_step (oper_p rfl rfl rfl rfl)
      rfl
    · apply keep_step (T' := [(1, nI 2), (2, nI deg), (3, nI terms), (4, .one (.ptr 0 0 0 0)), (9, (.one (.p (.lst es)))), (10, nI k), (24, .one (.p (.bool true)))]) rfl; apply cond_t rfl; rfl
  · apply keep_step (T' := [(1, nI 2), (2, nI deg), (3, nI terms), (4, .one (.ptr 0 0 0 0)), (9, (.one (.p (.lst es)))), (10, nI k)]) rfl
    apply seq_normal
    · apply block_normal
      apply seq_region
      · apply ops_step (oper_p rfl rfl rfl rfl)
        apply ops_step (oper_yes rfl rfl rfl rfl)
        apply ops_step (oper_yes rfl rfl rfl (store_mono (G := G) rfl))
        rfl
      · apply stepH (set_end _ _ (blkM [nL 0, nL 0, nL 0, nL 0, nL 0, nL 0, nL 0, nL 0]) G)
        apply seq_region
        · apply ops_step (oper_p rfl rfl rfl rfl)
          apply ops_step (oper_p rfl rfl rfl rfl)
          rfl
        · apply seq_normal
          · apply seq_region
            · apply ops_step (oper_p rfl rfl rfl rfl)
              rfl
            · apply block_exit (j := 2)
              exact in_loop (G := G) hM hR hk h1 h2 h3 hd ⟨rfl, rfl⟩
          · apply just_draw
            apply draw_of
            · apply drw_step (oper_p rfl rfl rfl rfl) rfl
              apply drw_step (oper_p rfl rfl rfl rfl) rfl
              apply drw_step (oper_r rfl rfl rfl rfl) rfl
              apply drw_step (oper_p rfl rfl rfl rfl) rfl
              apply drw_step (oper_p rfl rfl rfl (idx_poly hR hk rfl)) rfl
              apply drw_step (oper_p rfl rfl rfl rfl) rfl
              apply drw_step (oper_p rfl rfl rfl rfl) rfl
              apply drw_step (oper_p rfl rfl rfl rfl) rfl
              apply drw_step (oper_p rfl rfl rfl (conv_c hw)) rfl
              apply drw_step (oper_p rfl rfl (hpc hM.whole) (call_one1 hM.whole hwc)) hM.whole
              apply drw_step (oper_p rfl rfl (hpc hM.whole) (call_one1 hM.whole hw1)) hM.whole
              apply drw_step (oper_r rfl rfl rfl (load_mono (G := G))) rfl
              apply drw_step (oper_p rfl rfl rfl (bld_term (by simp [hul]) rfl)) rfl
              apply drw_step (oper_yes rfl rfl rfl (bs1 (by simp [hul]))) rfl
              apply drwH (fresh_eq (u1 := u1) (ms := [nL (e0 deg t1), nL (e1 deg t1 t2), nL (e2 deg t1 t2 t3), nL 0, nL 0, nL 0, nL 0, nL 0]))
              apply drw_step (oper_yes rfl rfl (hpc hM.scale) (call_end1 (G := G ++ [blkM [nL (e0 deg t1), nL (e1 deg t1 t2), nL (e2 deg t1 t2 t3), nL 0, nL 0, nL 0, nL 0, nL 0]]) hM.scale hsc hLs)) hM.scale
              apply drwH (set_end _ _ (tblkF true (u1 ++ [nL (e0 deg t1), nL (e1 deg t1 t2), nL (e2 deg t1 t2 t3), nL 0, nL 0, nL 0, nL 0, nL 0])) (G ++ [blkM [nL (e0 deg t1), nL (e1 deg t1 t2), nL (e2 deg t1 t2 t3), nL 0, nL 0, nL 0, nL 0, nL 0]]))
              apply drw_step (oper_p rfl rfl (hpc hM.add) (call_one2 hM.add hadd)) hM.add
              apply drw_step (oper_p rfl rfl rfl rfl) rfl
              exact drw_nil
            · simp [footsOk, footOk, applyWr, addAl]
              try (repeat' (first | exact .inl (ble_f (by omega)) | refine ⟨?_, ?_⟩))
    · apply just_region
      apply ops_step (oper_p rfl rfl rfl rfl)
      apply ops_step (oper_p rfl rfl rfl (add_n (x := k) (y := 1) (by omega)))
      apply ops_step (oper_p rfl rfl rfl rfl)
      rfl
  · constructor
    · rfl
    · rfl

set_option maxRecDepth 100000 in
set_option maxHeartbeats 2000000 in
theorem out_LZ (hM : MadeM E) (hR : PolyL R rs) (hk : rs[k]? = some (raw5 a0 a1 a2 a3 a4)) (hkt : k < terms) (h1 : E.pure 50 [.one (.int .i8 a1)] = some (.one (nL t1))) (h2 : E.pure 50 [.one (.int .i8 a2)] = some (.one (nL t2))) (h3 : E.pure 50 [.one (.int .i8 a3)] = some (.one (nL t3))) (hd : deg < 1000) (hkb : k < 1000)
    (hw : wrapF .i64 (Int.tmod a0 4) = c) (hwc : E.pure 23 [.one (.int .i64 c)] = some (.agg u)) (hw1 : E.pure 23 [.one (.int .i64 1)] = some (.agg u1)) (hul : u1.length = 4)
    (hsc : E.pure 46 [.agg u, .one (.lst [u1 ++ [nL (e0 deg t1), nL (e1 deg t1 t2), nL (e2 deg t1 t2 t3), nL 0, nL 0, nL 0, nL 0, nL 0]])] = some (.one L)) (hLs : (PV.one L).scalar = true) (hadd : E.pure 8 [.one (.lst es), .one L] = some (.one (.lst out)))
    {s : St} (hs : AtM R deg terms k (.one (.p (.lst es))) G s) :
    ∃ s', evCode E 1000 0 bMade s = some (.normal, s') ∧ AtM R deg terms (k + 1) (.one (.p (.lst out))) (G ++ [blkM [nL (e0 deg t1), nL (e1 deg t1 t2), nL (e2 deg t1 t2 t3), nL 0, nL 0, nL 0, nL 0, nL 0]] ++ [tblkF false (u1 ++ [nL (e0 deg t1), nL (e1 deg t1 t2), nL (e2 deg t1 t2 t3), nL 0, nL 0, nL 0, nL 0, nL 0])]) s' := by
  have hlt : k < rs.length := (List.getElem?_eq_some_iff.1 hk).1
  obtain ⟨sT, sH⟩ := s
  obtain ⟨hT, hH⟩ := hs
  simp only at hT hH
  subst hH
  unfold bMade
  dsimp only [x22, loopD, loopOf]
  apply exN
  apply keep_step hT
  apply seq_normal
  · apply seq_region
    · apply ops_step (oper_p rfl rfl rfl rfl)
      apply ops_step (oper_p rfl rfl rfl rfl)
      apply ops_step (oper_r rfl rfl rfl rfl)
      apply ops_step (oper_p rfl rfl rfl (len_poly hR))
      apply ops_step (oper_p rfl rfl rfl (lss_t hlt))
      apply ops_step (oper_p rfl rfl rfl rfl)
      apply ops_step (oper_p rfl rfl rfl rfl)
      apply ops_step (oper_p rfl rfl rfl rfl)
      apply ops_step (oper_p rfl rfl rfl (lss_t hkt))
      apply ops_step (oper_p rfl rfl rfl rfl)
      rfl
    · apply keep_step (T' := [(1, nI 2), (2, nI deg), (3, nI terms), (4, .one (.ptr 0 0 0 0)), (9, (.one (.p (.lst es)))), (10, nI k), (24, .one (.p (.bool true)))]) rfl; apply cond_t rfl; rfl
  · apply keep_step (T' := [(1, nI 2), (2, nI deg), (3, nI terms), (4, .one (.ptr 0 0 0 0)), (9, (.one (.p (.lst es)))), (10, nI k)]) rfl
    apply seq_normal
    · apply block_normal
      apply seq_region
      · apply ops_step (oper_p rfl rfl rfl rfl)
        apply ops_step (oper_yes rfl rfl rfl rfl)
        apply ops_step (oper_yes rfl rfl rfl (store_mono (G := G) rfl))
        rfl
      · apply stepH (set_end _ _ (blkM [nL 0, nL 0, nL 0, nL 0, nL 0, nL 0, nL 0, nL 0]) G)
        apply seq_region
        · apply ops_step (oper_p rfl rfl rfl rfl)
          apply ops_step (oper_p rfl rfl rfl rfl)
          rfl
        · apply seq_normal
          · apply seq_region
            · apply ops_step (oper_p rfl rfl rfl rfl)
              rfl
            · apply block_exit (j := 2)
              exact in_loop (G := G) hM hR hk h1 h2 h3 hd ⟨rfl, rfl⟩
          · apply just_draw
            apply draw_of
            · apply drw_step (oper_p rfl rfl rfl rfl) rfl
              apply drw_step (oper_p rfl rfl rfl rfl) rfl
              apply drw_step (oper_r rfl rfl rfl rfl) rfl
              apply drw_step (oper_p rfl rfl rfl rfl) rfl
              apply drw_step (oper_p rfl rfl rfl (idx_poly hR hk rfl)) rfl
              apply drw_step (oper_p rfl rfl rfl rfl) rfl
              apply drw_step (oper_p rfl rfl rfl rfl) rfl
              apply drw_step (oper_p rfl rfl rfl rfl) rfl
              apply drw_step (oper_p rfl rfl rfl (conv_c hw)) rfl
              apply drw_step (oper_p rfl rfl (hpc hM.whole) (call_one1 hM.whole hwc)) hM.whole
              apply drw_step (oper_p rfl rfl (hpc hM.whole) (call_one1 hM.whole hw1)) hM.whole
              apply drw_step (oper_r rfl rfl rfl (load_mono (G := G))) rfl
              apply drw_step (oper_p rfl rfl rfl (bld_term (by simp [hul]) rfl)) rfl
              apply drw_step (oper_yes rfl rfl rfl (bs1 (by simp [hul]))) rfl
              apply drwH (fresh_eq (u1 := u1) (ms := [nL (e0 deg t1), nL (e1 deg t1 t2), nL (e2 deg t1 t2 t3), nL 0, nL 0, nL 0, nL 0, nL 0]))
              apply drw_step (oper_r rfl rfl (hpc hM.scale) (call_end0 (G := G ++ [blkM [nL (e0 deg t1), nL (e1 deg t1 t2), nL (e2 deg t1 t2 t3), nL 0, nL 0, nL 0, nL 0, nL 0]]) hM.scale hsc hLs)) hM.scale
              apply drw_step (oper_p rfl rfl (hpc hM.add) (call_one2 hM.add hadd)) hM.add
              apply drw_step (oper_p rfl rfl rfl rfl) rfl
              exact drw_nil
            · simp [footsOk, footOk, applyWr, addAl]
              try (repeat' (first | exact .inl (ble_f (by omega)) | refine ⟨?_, ?_⟩))
    · apply just_region
      apply ops_step (oper_p rfl rfl rfl rfl)
      apply ops_step (oper_p rfl rfl rfl (add_n (x := k) (y := 1) (by omega)))
      apply ops_step (oper_p rfl rfl rfl rfl)
      rfl
  · constructor
    · rfl
    · rfl

set_option maxRecDepth 100000 in
set_option maxHeartbeats 2000000 in
theorem out_FN (hG : G[0]? = some (emptyT false)) (hM : MadeM E) (hR : PolyL R rs) (hk : rs[k]? = some (raw5 a0 a1 a2 a3 a4)) (hkt : k < terms) (h1 : E.pure 50 [.one (.int .i8 a1)] = some (.one (nL t1))) (h2 : E.pure 50 [.one (.int .i8 a2)] = some (.one (nL t2))) (h3 : E.pure 50 [.one (.int .i8 a3)] = some (.one (nL t3))) (hd : deg < 1000) (hkb : k < 1000)
    (hw : wrapF .i64 (Int.tmod a0 4) = c) (hwc : E.pure 23 [.one (.int .i64 c)] = some (.agg u)) (hw1 : E.pure 23 [.one (.int .i64 1)] = some (.agg u1)) (hul : u1.length = 4)
    (hsc : E.pure 46 [.agg u, .one (.lst [u1 ++ [nL (e0 deg t1), nL (e1 deg t1 t2), nL (e2 deg t1 t2 t3), nL 0, nL 0, nL 0, nL 0, nL 0]])] = some (.one L)) (hLs : (PV.one L).scalar = false) (hadd : E.pure 8 [.one (.lst []), .one L] = some (.one (.lst out)))
    {s : St} (hs : AtM R deg terms k (.one (.own 1 0 0 0)) G s) :
    ∃ s', evCode E 1000 0 bMade s = some (.normal, s') ∧ AtM R deg terms (k + 1) (.one (.p (.lst out))) ((G ++ [blkM [nL (e0 deg t1), nL (e1 deg t1 t2), nL (e2 deg t1 t2 t3), nL 0, nL 0, nL 0, nL 0, nL 0]] ++ [tblkF true (u1 ++ [nL (e0 deg t1), nL (e1 deg t1 t2), nL (e2 deg t1 t2 t3), nL 0, nL 0, nL 0, nL 0, nL 0])]).set 0 (emptyT true)) s' := by
  have hlt : k < rs.length := (List.getElem?_eq_some_iff.1 hk).1
  obtain ⟨sT, sH⟩ := s
  obtain ⟨hT, hH⟩ := hs
  simp only at hT hH
  subst hH
  unfold bMade
  dsimp only [x22, loopD, loopOf]
  apply exN
  apply keep_step hT
  apply seq_normal
  · apply seq_region
    · apply ops_step (oper_p rfl rfl rfl rfl)
      apply ops_step (oper_p rfl rfl rfl rfl)
      apply ops_step (oper_r rfl rfl rfl rfl)
      apply ops_step (oper_p rfl rfl rfl (len_poly hR))
      apply ops_step (oper_p rfl rfl rfl (lss_t hlt))
      apply ops_step (oper_p rfl rfl rfl rfl)
      apply ops_step (oper_p rfl rfl rfl rfl)
      apply ops_step (oper_p rfl rfl rfl rfl)
      apply ops_step (oper_p rfl rfl rfl (lss_t hkt))
      apply ops_step (oper_p rfl rfl rfl rfl)
      rfl
    · apply keep_step (T' := [(1, nI 2), (2, nI deg), (3, nI terms), (4, .one (.ptr 0 0 0 0)), (9, (.one (.own 1 0 0 0))), (10, nI k), (24, .one (.p (.bool true)))]) rfl; apply cond_t rfl; rfl
  · apply keep_step (T' := [(1, nI 2), (2, nI deg), (3, nI terms), (4, .one (.ptr 0 0 0 0)), (9, (.one (.own 1 0 0 0))), (10, nI k)]) rfl
    apply seq_normal
    · apply block_normal
      apply seq_region
      · apply ops_step (oper_p rfl rfl rfl rfl)
        apply ops_step (oper_yes rfl rfl rfl rfl)
        apply ops_step (oper_yes rfl rfl rfl (store_mono (G := G) rfl))
        rfl
      · apply stepH (set_end _ _ (blkM [nL 0, nL 0, nL 0, nL 0, nL 0, nL 0, nL 0, nL 0]) G)
        apply seq_region
        · apply ops_step (oper_p rfl rfl rfl rfl)
          apply ops_step (oper_p rfl rfl rfl rfl)
          rfl
        · apply seq_normal
          · apply seq_region
            · apply ops_step (oper_p rfl rfl rfl rfl)
              rfl
            · apply block_exit (j := 2)
              exact in_loop (G := G) hM hR hk h1 h2 h3 hd ⟨rfl, rfl⟩
          · apply just_draw
            apply draw_of
            · apply drw_step (oper_p rfl rfl rfl rfl) rfl
              apply drw_step (oper_p rfl rfl rfl rfl) rfl
              apply drw_step (oper_r rfl rfl rfl rfl) rfl
              apply drw_step (oper_p rfl rfl rfl rfl) rfl
              apply drw_step (oper_p rfl rfl rfl (idx_poly hR hk rfl)) rfl
              apply drw_step (oper_p rfl rfl rfl rfl) rfl
              apply drw_step (oper_p rfl rfl rfl rfl) rfl
              apply drw_step (oper_p rfl rfl rfl rfl) rfl
              apply drw_step (oper_p rfl rfl rfl (conv_c hw)) rfl
              apply drw_step (oper_p rfl rfl (hpc hM.whole) (call_one1 hM.whole hwc)) hM.whole
              apply drw_step (oper_p rfl rfl (hpc hM.whole) (call_one1 hM.whole hw1)) hM.whole
              apply drw_step (oper_r rfl rfl rfl (load_mono (G := G))) rfl
              apply drw_step (oper_p rfl rfl rfl (bld_term (by simp [hul]) rfl)) rfl
              apply drw_step (oper_yes rfl rfl rfl (bs1 (by simp [hul]))) rfl
              apply drwH (fresh_eq (u1 := u1) (ms := [nL (e0 deg t1), nL (e1 deg t1 t2), nL (e2 deg t1 t2 t3), nL 0, nL 0, nL 0, nL 0, nL 0]))
              apply drw_step (oper_yes rfl rfl (hpc hM.scale) (call_end1 (G := G ++ [blkM [nL (e0 deg t1), nL (e1 deg t1 t2), nL (e2 deg t1 t2 t3), nL 0, nL 0, nL 0, nL 0, nL 0]]) hM.scale hsc hLs)) hM.scale
              apply drwH (set_end _ _ (tblkF true (u1 ++ [nL (e0 deg t1), nL (e1 deg t1 t2), nL (e2 deg t1 t2 t3), nL 0, nL 0, nL 0, nL 0, nL 0])) (G ++ [blkM [nL (e0 deg t1), nL (e1 deg t1 t2), nL (e2 deg t1 t2 t3), nL 0, nL 0, nL 0, nL 0, nL 0]]))
              apply drw_step (oper_yes rfl rfl (hpc hM.add) (call_ownG hM.add (own_at _ _ hG) hadd rfl)) hM.add
              apply drw_step (oper_p rfl rfl rfl rfl) rfl
              exact drw_nil
            · simp [footsOk, footOk, applyWr, addAl]
              try (repeat' (first | exact .inl (ble_f (by omega)) | refine ⟨?_, ?_⟩))
    · apply just_region
      apply ops_step (oper_p rfl rfl rfl rfl)
      apply ops_step (oper_p rfl rfl rfl (add_n (x := k) (y := 1) (by omega)))
      apply ops_step (oper_p rfl rfl rfl rfl)
      rfl
  · constructor
    · rfl
    · rfl

set_option maxRecDepth 100000 in
set_option maxHeartbeats 2000000 in
theorem out_FZ (hG : G[0]? = some (emptyT false)) (hM : MadeM E) (hR : PolyL R rs) (hk : rs[k]? = some (raw5 a0 a1 a2 a3 a4)) (hkt : k < terms) (h1 : E.pure 50 [.one (.int .i8 a1)] = some (.one (nL t1))) (h2 : E.pure 50 [.one (.int .i8 a2)] = some (.one (nL t2))) (h3 : E.pure 50 [.one (.int .i8 a3)] = some (.one (nL t3))) (hd : deg < 1000) (hkb : k < 1000)
    (hw : wrapF .i64 (Int.tmod a0 4) = c) (hwc : E.pure 23 [.one (.int .i64 c)] = some (.agg u)) (hw1 : E.pure 23 [.one (.int .i64 1)] = some (.agg u1)) (hul : u1.length = 4)
    (hsc : E.pure 46 [.agg u, .one (.lst [u1 ++ [nL (e0 deg t1), nL (e1 deg t1 t2), nL (e2 deg t1 t2 t3), nL 0, nL 0, nL 0, nL 0, nL 0]])] = some (.one L)) (hLs : (PV.one L).scalar = true) (hadd : E.pure 8 [.one (.lst []), .one L] = some (.one (.lst out)))
    {s : St} (hs : AtM R deg terms k (.one (.own 1 0 0 0)) G s) :
    ∃ s', evCode E 1000 0 bMade s = some (.normal, s') ∧ AtM R deg terms (k + 1) (.one (.p (.lst out))) ((G ++ [blkM [nL (e0 deg t1), nL (e1 deg t1 t2), nL (e2 deg t1 t2 t3), nL 0, nL 0, nL 0, nL 0, nL 0]] ++ [tblkF false (u1 ++ [nL (e0 deg t1), nL (e1 deg t1 t2), nL (e2 deg t1 t2 t3), nL 0, nL 0, nL 0, nL 0, nL 0])]).set 0 (emptyT true)) s' := by
  have hlt : k < rs.length := (List.getElem?_eq_some_iff.1 hk).1
  obtain ⟨sT, sH⟩ := s
  obtain ⟨hT, hH⟩ := hs
  simp only at hT hH
  subst hH
  unfold bMade
  dsimp only [x22, loopD, loopOf]
  apply exN
  apply keep_step hT
  apply seq_normal
  · apply seq_region
    · apply ops_step (oper_p rfl rfl rfl rfl)
      apply ops_step (oper_p rfl rfl rfl rfl)
      apply ops_step (oper_r rfl rfl rfl rfl)
      apply ops_step (oper_p rfl rfl rfl (len_poly hR))
      apply ops_step (oper_p rfl rfl rfl (lss_t hlt))
      apply ops_step (oper_p rfl rfl rfl rfl)
      apply ops_step (oper_p rfl rfl rfl rfl)
      apply ops_step (oper_p rfl rfl rfl rfl)
      apply ops_step (oper_p rfl rfl rfl (lss_t hkt))
      apply ops_step (oper_p rfl rfl rfl rfl)
      rfl
    · apply keep_step (T' := [(1, nI 2), (2, nI deg), (3, nI terms), (4, .one (.ptr 0 0 0 0)), (9, (.one (.own 1 0 0 0))), (10, nI k), (24, .one (.p (.bool true)))]) rfl; apply cond_t rfl; rfl
  · apply keep_step (T' := [(1, nI 2), (2, nI deg), (3, nI terms), (4, .one (.ptr 0 0 0 0)), (9, (.one (.own 1 0 0 0))), (10, nI k)]) rfl
    apply seq_normal
    · apply block_normal
      apply seq_region
      · apply ops_step (oper_p rfl rfl rfl rfl)
        apply ops_step (oper_yes rfl rfl rfl rfl)
        apply ops_step (oper_yes rfl rfl rfl (store_mono (G := G) rfl))
        rfl
      · apply stepH (set_end _ _ (blkM [nL 0, nL 0, nL 0, nL 0, nL 0, nL 0, nL 0, nL 0]) G)
        apply seq_region
        · apply ops_step (oper_p rfl rfl rfl rfl)
          apply ops_step (oper_p rfl rfl rfl rfl)
          rfl
        · apply seq_normal
          · apply seq_region
            · apply ops_step (oper_p rfl rfl rfl rfl)
              rfl
            · apply block_exit (j := 2)
              exact in_loop (G := G) hM hR hk h1 h2 h3 hd ⟨rfl, rfl⟩
          · apply just_draw
            apply draw_of
            · apply drw_step (oper_p rfl rfl rfl rfl) rfl
              apply drw_step (oper_p rfl rfl rfl rfl) rfl
              apply drw_step (oper_r rfl rfl rfl rfl) rfl
              apply drw_step (oper_p rfl rfl rfl rfl) rfl
              apply drw_step (oper_p rfl rfl rfl (idx_poly hR hk rfl)) rfl
              apply drw_step (oper_p rfl rfl rfl rfl) rfl
              apply drw_step (oper_p rfl rfl rfl rfl) rfl
              apply drw_step (oper_p rfl rfl rfl rfl) rfl
              apply drw_step (oper_p rfl rfl rfl (conv_c hw)) rfl
              apply drw_step (oper_p rfl rfl (hpc hM.whole) (call_one1 hM.whole hwc)) hM.whole
              apply drw_step (oper_p rfl rfl (hpc hM.whole) (call_one1 hM.whole hw1)) hM.whole
              apply drw_step (oper_r rfl rfl rfl (load_mono (G := G))) rfl
              apply drw_step (oper_p rfl rfl rfl (bld_term (by simp [hul]) rfl)) rfl
              apply drw_step (oper_yes rfl rfl rfl (bs1 (by simp [hul]))) rfl
              apply drwH (fresh_eq (u1 := u1) (ms := [nL (e0 deg t1), nL (e1 deg t1 t2), nL (e2 deg t1 t2 t3), nL 0, nL 0, nL 0, nL 0, nL 0]))
              apply drw_step (oper_r rfl rfl (hpc hM.scale) (call_end0 (G := G ++ [blkM [nL (e0 deg t1), nL (e1 deg t1 t2), nL (e2 deg t1 t2 t3), nL 0, nL 0, nL 0, nL 0, nL 0]]) hM.scale hsc hLs)) hM.scale
              apply drw_step (oper_yes rfl rfl (hpc hM.add) (call_ownG hM.add (own_at _ _ hG) hadd rfl)) hM.add
              apply drw_step (oper_p rfl rfl rfl rfl) rfl
              exact drw_nil
            · simp [footsOk, footOk, applyWr, addAl]
              try (repeat' (first | exact .inl (ble_f (by omega)) | refine ⟨?_, ?_⟩))
    · apply just_region
      apply ops_step (oper_p rfl rfl rfl rfl)
      apply ops_step (oper_p rfl rfl rfl (add_n (x := k) (y := 1) (by omega)))
      apply ops_step (oper_p rfl rfl rfl rfl)
      rfl
  · constructor
    · rfl
    · rfl

end
end Go.Proofs.YthmlggklnfmidaaGreat
