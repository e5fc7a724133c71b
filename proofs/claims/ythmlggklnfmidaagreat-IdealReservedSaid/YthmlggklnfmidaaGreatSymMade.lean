/- The polynomial that raw numbers describe (the reference's Made): the inner loop, on symbolic numbers (turned to two variables). -/
import Derived.Test.YthmlggklnfmidaaGreatSymAdd2
import Derived.Test.YthmlggklnfmidaaGreatTabs
namespace Go.Proofs.YthmlggklnfmidaaGreat
open Go.Ev

def bMade : XCode := loopD x22.body
def bIn : XCode := loopD bMade

structure MadeM (E : Oracle) : Prop where
  abs : isHeapCall E (.call 50) = false
  whole : isHeapCall E (.call 23) = false
  scale : isHeapCall E (.call 46) = false
  add : isHeapCall E (.call 8) = false

def boxR (R : PL) : Blk := ⟨false, 0, 1, [[.p R]], false, 25⟩
def blkM (ys : List PL) : Blk := ⟨false, 0, 8, [ys.map .p], false, 55⟩
def raw5 (a0 a1 a2 a3 a4 : Int) : List PL := [.int .i8 a0, .int .i8 a1, .int .i8 a2, .int .i8 a3, .int .i8 a4]
def nI (x : Nat) : DV := .one (.p (.int .i64 (.ofNat x)))

/-- The state at the head of the inner loop. -/
structure AtI (R : PL) (deg terms k left i : Nat) (outD : DV) (ys : List PL) (G : List Blk) (s : St) : Prop where
  T : keepT s.T [1, 2, 3, 4, 9, 10, 11, 12, 13] = [(1, nI 2), (2, nI deg), (3, nI terms), (4, .one (.ptr 0 0 0 0)), (9, outD), (10, nI k), (11, .one (.ptr (G.length + 1) 0 0 0)), (12, nI left), (13, nI i)]
  H : s.H = boxR R :: (G ++ [blkM ys])

section
variable {E : Oracle} {K : Nat} {R : PL} {rs : List (List PL)} {deg terms k left t : Nat} {outD : DV} {G : List Blk} {a0 a1 a2 a3 a4 : Int} {y0 y1 y2 y3 y4 y5 y6 y7 : PL}

set_option maxRecDepth 100000 in
set_option maxHeartbeats 1000000 in
theorem in_0 (hM : MadeM E) (hR : PolyL R rs) (hk : rs[k]? = some (raw5 a0 a1 a2 a3 a4)) (ht : E.pure 50 [.one (.int .i8 a1)] = some (.one (.int .i64 (.ofNat t)))) (hl : left < 1000) {s : St} (hs : AtI R deg terms k left 0 outD [y0, y1, y2, y3, y4, y5, y6, y7] G s) :
    ∃ s', evCode E K 0 bIn s = some (.normal, s') ∧ AtI R deg terms k (left - t % (left + 1)) 1 outD [(.int .i64 (.ofNat (t % (left + 1)))), y1, y2, y3, y4, y5, y6, y7] G s' := by
  have hm : t % (left + 1) ≤ left := Nat.lt_succ_iff.1 (Nat.mod_lt _ (Nat.succ_pos _))
  obtain ⟨sT, sH⟩ := s
  obtain ⟨hT, hH⟩ := hs
  simp only at hT hH
  subst hH
  unfold bIn bMade
  dsimp only [x22, loopD, loopOf]
  apply exN
  apply keep_step hT
  apply seq_normal
  · apply seq_region
    · apply ops_step (oper_p rfl rfl rfl rfl)
      apply ops_step (oper_p rfl rfl rfl rfl)
      apply ops_step (oper_p rfl rfl rfl rfl)
      apply ops_step (oper_p rfl rfl rfl rfl)
      apply ops_step (oper_p rfl rfl rfl rfl)
      apply ops_step (oper_p rfl rfl rfl rfl)
      apply ops_step (oper_p rfl rfl rfl rfl)
      rfl
    · apply keep_step (T' := [(1, nI 2), (2, nI deg), (3, nI terms), (4, .one (.ptr 0 0 0 0)), (9, outD), (10, nI k), (11, .one (.ptr (G.length + 1) 0 0 0)), (12, nI (left)), (13, nI 0), (35, .one (.p (.bool true)))]) rfl; apply cond_t rfl; rfl
  · apply keep_step (T' := [(1, nI 2), (2, nI deg), (3, nI terms), (4, .one (.ptr 0 0 0 0)), (9, outD), (10, nI k), (11, .one (.ptr (G.length + 1) 0 0 0)), (12, nI (left)), (13, nI 0)]) rfl
    apply seq_normal
    · apply block_normal
      apply seq_region
      · apply ops_step (oper_p rfl rfl rfl rfl)
        apply ops_step (oper_p rfl rfl rfl rfl)
        apply ops_step (oper_r rfl rfl rfl rfl)
        apply ops_step (oper_p rfl rfl rfl rfl)
        apply ops_step (oper_p rfl rfl rfl rfl)
        apply ops_step (oper_p rfl rfl rfl rfl)
        apply ops_step (oper_p rfl rfl rfl (idx_poly hR hk rfl))
        apply ops_step (oper_p rfl rfl rfl rfl)
        apply ops_step (oper_p rfl rfl rfl rfl)
        apply ops_step (oper_p rfl rfl (hpc hM.abs) (call_one1 hM.abs ht))
        apply ops_step (oper_p rfl rfl rfl rfl)
        apply ops_step (oper_p rfl rfl rfl (add_n (x := left) (y := 1) (by omega)))
        apply ops_step (oper_p rfl rfl rfl (rem_n (y := left)))
        apply ops_step (oper_p rfl rfl rfl rfl)
        apply ops_step (oper_yes rfl rfl rfl (store1_end (cs := [y0, y1, y2, y3, y4, y5, y6, y7].map .p) (off := 0) (by simp)))
        rfl
      · apply just_region
        apply opsH (set_end _ _ (blkM [(.int .i64 (.ofNat (t % (left + 1)))), y1, y2, y3, y4, y5, y6, y7]) _)
        apply ops_step (oper_p rfl rfl rfl rfl)
        apply ops_step (oper_p rfl rfl rfl rfl)
        apply ops_step (oper_p rfl rfl rfl rfl)
        apply ops_step (oper_r rfl rfl rfl (load1_end (cs := [(.int .i64 (.ofNat (t % (left + 1)))), y1, y2, y3, y4, y5, y6, y7].map .p) (off := 0) rfl (by simp)))
        apply ops_step (oper_p rfl rfl rfl (sub_n hm (by omega)))
        apply ops_step (oper_p rfl rfl rfl rfl)
        rfl
    · apply just_region
      apply ops_step (oper_p rfl rfl rfl rfl)
      apply ops_step (oper_p rfl rfl rfl (add_n (x := 0) (y := 1) (by omega)))
      apply ops_step (oper_p rfl rfl rfl rfl)
      rfl
  · constructor
    · rfl
    · rfl

set_option maxRecDepth 100000 in
set_option maxHeartbeats 1000000 in
theorem in_1 (hM : MadeM E) (hR : PolyL R rs) (hk : rs[k]? = some (raw5 a0 a1 a2 a3 a4)) (ht : E.pure 50 [.one (.int .i8 a2)] = some (.one (.int .i64 (.ofNat t)))) (hl : left < 1000) {s : St} (hs : AtI R deg terms k left 1 outD [y0, y1, y2, y3, y4, y5, y6, y7] G s) :
    ∃ s', evCode E K 0 bIn s = some (.normal, s') ∧ AtI R deg terms k (left - t % (left + 1)) 2 outD [y0, (.int .i64 (.ofNat (t % (left + 1)))), y2, y3, y4, y5, y6, y7] G s' := by
  have hm : t % (left + 1) ≤ left := Nat.lt_succ_iff.1 (Nat.mod_lt _ (Nat.succ_pos _))
  obtain ⟨sT, sH⟩ := s
  obtain ⟨hT, hH⟩ := hs
  simp only at hT hH
  subst hH
  unfold bIn bMade
  dsimp only [x22, loopD, loopOf]
  apply exN
  apply keep_step hT
  apply seq_normal
  · apply seq_region
    · apply ops_step (oper_p rfl rfl rfl rfl)
      apply ops_step (oper_p rfl rfl rfl rfl)
      apply ops_step (oper_p rfl rfl rfl rfl)
      apply ops_step (oper_p rfl rfl rfl rfl)
      apply ops_step (oper_p rfl rfl rfl rfl)
      apply ops_step (oper_p rfl rfl rfl rfl)
      apply ops_step (oper_p rfl rfl rfl rfl)
      rfl
    · apply keep_step (T' := [(1, nI 2), (2, nI deg), (3, nI terms), (4, .one (.ptr 0 0 0 0)), (9, outD), (10, nI k), (11, .one (.ptr (G.length + 1) 0 0 0)), (12, nI (left)), (13, nI 1), (35, .one (.p (.bool true)))]) rfl; apply cond_t rfl; rfl
  · apply keep_step (T' := [(1, nI 2), (2, nI deg), (3, nI terms), (4, .one (.ptr 0 0 0 0)), (9, outD), (10, nI k), (11, .one (.ptr (G.length + 1) 0 0 0)), (12, nI (left)), (13, nI 1)]) rfl
    apply seq_normal
    · apply block_normal
      apply seq_region
      · apply ops_step (oper_p rfl rfl rfl rfl)
        apply ops_step (oper_p rfl rfl rfl rfl)
        apply ops_step (oper_r rfl rfl rfl rfl)
        apply ops_step (oper_p rfl rfl rfl rfl)
        apply ops_step (oper_p rfl rfl rfl rfl)
        apply ops_step (oper_p rfl rfl rfl rfl)
        apply ops_step (oper_p rfl rfl rfl (idx_poly hR hk rfl))
        apply ops_step (oper_p rfl rfl rfl rfl)
        apply ops_step (oper_p rfl rfl rfl rfl)
        apply ops_step (oper_p rfl rfl (hpc hM.abs) (call_one1 hM.abs ht))
        apply ops_step (oper_p rfl rfl rfl rfl)
        apply ops_step (oper_p rfl rfl rfl (add_n (x := left) (y := 1) (by omega)))
        apply ops_step (oper_p rfl rfl rfl (rem_n (y := left)))
        apply ops_step (oper_p rfl rfl rfl rfl)
        apply ops_step (oper_yes rfl rfl rfl (store1_end (cs := [y0, y1, y2, y3, y4, y5, y6, y7].map .p) (off := 1) (by simp)))
        rfl
      · apply just_region
        apply opsH (set_end _ _ (blkM [y0, (.int .i64 (.ofNat (t % (left + 1)))), y2, y3, y4, y5, y6, y7]) _)
        apply ops_step (oper_p rfl rfl rfl rfl)
        apply ops_step (oper_p rfl rfl rfl rfl)
        apply ops_step (oper_p rfl rfl rfl rfl)
        apply ops_step (oper_r rfl rfl rfl (load1_end (cs := [y0, (.int .i64 (.ofNat (t % (left + 1)))), y2, y3, y4, y5, y6, y7].map .p) (off := 1) rfl (by simp)))
        apply ops_step (oper_p rfl rfl rfl (sub_n hm (by omega)))
        apply ops_step (oper_p rfl rfl rfl rfl)
        rfl
    · apply just_region
      apply ops_step (oper_p rfl rfl rfl rfl)
      apply ops_step (oper_p rfl rfl rfl (add_n (x := 1) (y := 1) (by omega)))
      apply ops_step (oper_p rfl rfl rfl rfl)
      rfl
  · constructor
    · rfl
    · rfl

set_option maxRecDepth 100000 in
theorem in_stop {ys : List PL} {s : St} (hs : AtI R deg terms k left 2 outD ys G s) :
    evCode E K 0 bIn s = some (.exit 2, ⟨[(1, nI 2), (2, nI deg), (3, nI terms), (4, .one (.ptr 0 0 0 0)), (9, outD), (10, nI k), (11, .one (.ptr (G.length + 1) 0 0 0)), (12, nI left), (13, nI 2), (35, .one (.p (.bool false)))], boxR R :: (G ++ [blkM ys])⟩) := by
  obtain ⟨sT, sH⟩ := s
  obtain ⟨hT, hH⟩ := hs
  simp only at hT hH
  subst hH
  unfold bIn bMade
  dsimp only [x22, loopD, loopOf]
  apply keep_step hT
  apply seq_exit
  apply seq_region
  · apply ops_step (oper_p rfl rfl rfl rfl)
    apply ops_step (oper_p rfl rfl rfl rfl)
    apply ops_step (oper_p rfl rfl rfl rfl)
    apply ops_step (oper_p rfl rfl rfl rfl)
    apply ops_step (oper_no rfl)
    apply ops_step (oper_no rfl)
    apply ops_step (oper_p rfl rfl rfl rfl)
    rfl
  · apply keep_step rfl; apply cond_f rfl; rfl

def nL (x : Nat) : PL := .int .i64 (.ofNat x)
/-- The exponents that three raw numbers give, and what is left. -/
def e0 (deg t1 : Nat) : Nat := t1 % (deg + 1)
def e1 (deg t1 t2 : Nat) : Nat := t2 % (deg - e0 deg t1 + 1)
def e2 (_deg _t1 _t2 _t3 : Nat) : Nat := 0

theorem in_loop {t1 t2 t3 : Nat} (hM : MadeM E) (hR : PolyL R rs) (hk : rs[k]? = some (raw5 a0 a1 a2 a3 a4)) (h1 : E.pure 50 [.one (.int .i8 a1)] = some (.one (nL t1))) (h2 : E.pure 50 [.one (.int .i8 a2)] = some (.one (nL t2))) (_h3 : E.pure 50 [.one (.int .i8 a3)] = some (.one (nL t3))) (hd : deg < 1000)
    {s : St} (hs : AtI R deg terms k deg 0 outD [nL 0, nL 0, nL 0, nL 0, nL 0, nL 0, nL 0, nL 0] G s) :
    evCode E 1000 0 (.loop bIn) s = some (.exit 2, ⟨[(1, nI 2), (2, nI deg), (3, nI terms), (4, .one (.ptr 0 0 0 0)), (9, outD), (10, nI k), (11, .one (.ptr (G.length + 1) 0 0 0)), (12, nI (deg - e0 deg t1 - e1 deg t1 t2 - e2 deg t1 t2 t3)), (13, nI 2), (35, .one (.p (.bool false)))], boxR R :: (G ++ [blkM [nL (e0 deg t1), nL (e1 deg t1 t2), nL (e2 deg t1 t2 t3), nL 0, nL 0, nL 0, nL 0, nL 0]])⟩) := by
  obtain ⟨s1, g1, k1⟩ := in_0 (K := 1000) hM hR hk h1 hd hs
  obtain ⟨s2, g2, k2⟩ := in_1 (K := 1000) hM hR hk h2 (by omega) k1
  show loopN (fun s => evCode E 1000 0 bIn s) (997 + 1 + 1 + 1) s = _
  rw [loop_next g1, loop_next g2]
  exact loop_exit (in_stop k2)

end
end Go.Proofs.YthmlggklnfmidaaGreat
