/- The law IdealReserved answers true on every raw input (written by gen_law17.py). -/
import Derived.Test.YthmlggklnfmidaaGreatSymLaw17
namespace Go.Proofs.YthmlggklnfmidaaGreat
open Go.Ev

section
variable {E : Oracle} {f b n : Nat} {h : HF} {d : DL} {rows : List (List PL)} {ids : List Nat} {x : PL} {r : PV}
/-- A slice of the law's own, as the calls read it. -/
structure Own (h : HF) (d : DL) (rows : List (List PL)) (ids : List Nat) : Prop where
  F : freezeV1 h (.one d) = some (.one (.lst rows))
  I : idsV h (.one d) = ids
theorem call_oL (ho : Own h d rows ids) (hm : isHeapCall E (.call f) = false) (hr : E.pure f [.one (.lst rows), .one x] = some r) (hs : r.scalar = true) : evOp E b (.call f) [.one d, .one (.p x)] h n = some ⟨inj r, [], [], ids⟩ := by
  have h1 : freezeV1 h (.one (.p x)) = some (.one x) := rfl
  have h2 : idsV h (.one (.p x)) = [] := rfl
  simp only [evOp, evPure, mode_of hm, mapO, ho.F, ho.I, h1, h2, hr, hs, List.flatMap_cons, List.flatMap_nil, List.append_nil, Bool.or_true, cond_true]
theorem call_oR (ho : Own h d rows ids) (hm : isHeapCall E (.call f) = false) (hr : E.pure f [.one x, .one (.lst rows)] = some r) (hs : r.scalar = true) : evOp E b (.call f) [.one (.p x), .one d] h n = some ⟨inj r, [], [], ids⟩ := by
  have h1 : freezeV1 h (.one (.p x)) = some (.one x) := rfl
  have h2 : idsV h (.one (.p x)) = [] := rfl
  simp only [evOp, evPure, mode_of hm, mapO, ho.F, ho.I, h1, h2, hr, hs, List.flatMap_cons, List.flatMap_nil, List.append_nil, List.nil_append, Bool.or_true, cond_true]
end

def sndC : XCode → XCode
  | .seq _ b => b
  | .keep _ c => c
  | c => c
/-- What comes behind the choice of the list. -/
def rest17 : XCode := sndC (sndC (sndC (sndC (sndC (sndC (sndC (sndC x3.body)))))))

theorem ex_40 : (EV 40).pure 4 [] = some (.one (.bool true)) := (EV_le (n := 0) (by decide)).pure _ _ _ rfl

theorem rem2 {E : Oracle} {b m n q : Nat} {h : HF} (hq : n % 2 = q) : evOp E b (.bin .rem) [.one (.p (.int .u8 (.ofNat n))), .one (.p (.int .u8 2))] h m = some ⟨.one (.p (.int .u8 (.ofNat q))), [], [], []⟩ := by
  subst hq; rfl

theorem exS {E : Oracle} {c c' : XCode} {s s1 : St} {v : DV} (k : ∃ s', evCode E 1000 0 c' s1 = some (.ret, s') ∧ getT s'.T 6 = some v) (h : ∀ r, evCode E 1000 0 c' s1 = r → evCode E 1000 0 c s = r) : ∃ s', evCode E 1000 0 c s = some (.ret, s') ∧ getT s'.T 6 = some v := by
  obtain ⟨s', h1, h2⟩ := k
  exact ⟨s', h _ h1, h2⟩



def retB : Option (Ex × St) → Bool
  | some (.ret, s) => match getT s.T 6 with
    | some (.one (.p (.bool true))) => true
    | _ => false
  | _ => false
theorem retB_spec {o : Option (Ex × St)} (h : retB o = true) : ∃ s', o = some (.ret, s') ∧ getT s'.T 6 = some (.one (.p (.bool true))) := by
  unfold retB at h
  split at h
  · rename_i s
    split at h
    · rename_i hg
      exact ⟨s, rfl, hg⟩
    · cases h
  · cases h

def nTimes {α : Type} (f : α → α) : Nat → α → α
  | 0, x => x
  | n + 1, x => nTimes f n (f x)
/-- What comes behind the calls. -/
def tail17 : XCode := nTimes sndC 18 rest17
def ks17 : List Nat := [7, 13, 14, 15, 16, 17, 18, 19, 20, 21, 22, 23, 24, 25, 26, 27, 28, 29, 30, 31, 32]
def lN : DV := .one (.p .nilS)
def lZ : DV := .one (.p (.int .i64 0))
def lO : DV := .one (.p (.int .i64 1))
def T17 : List (Nat × DV) := [(7, .one (.p (.bool true))), (13, lN), (14, lO), (15, lN), (16, lO), (17, lN), (18, lO), (19, lN), (20, lO), (21, lN), (22, lZ), (23, lO), (24, lN), (25, lZ), (26, lO), (27, lN), (28, lO), (29, lZ), (30, lO), (31, lZ), (32, lO)]
theorem tail_k {H : List Blk} : retB (evCode (EV 40) 1000 0 (sndC tail17) ⟨T17, H⟩) = true := by kernel_rfl
theorem tail_keep : tail17 = .keep ks17 (sndC tail17) := by kernel_rfl
theorem tail_ev {T : List (Nat × DV)} {H : List Blk} (hT : keepT T ks17 = T17) : ∃ s', evCode (EV 40) 1000 0 tail17 ⟨T, H⟩ = some (.ret, s') ∧ getT s'.T 6 = some (.one (.p (.bool true))) := by
  obtain ⟨s', h1, h2⟩ := retB_spec (tail_k (H := H))
  refine ⟨s', ?_, h2⟩
  rw [tail_keep]
  exact keep_step hT h1

set_option maxRecDepth 100000 in
set_option maxHeartbeats 2000000 in
theorem rest_ev {T : List (Nat × DV)} {H : List Blk} {d : DL} {rows : List (List PL)} {ids : List Nat} {a l : PL} {p q : List (List PL)}
    (hT : keepT T [2, 7, 8, 9, 10, 12] = [(2, .one (.p a)), (7, .one (.p (.bool true))), (8, .one (.p l)), (9, .one (.p (.lst p))), (10, .one (.p (.lst [term7]))), (12, .one d)]) (ho : Own (HFof H) d rows ids)
    (hl : (EV 25).pure 27 [.one l] = some (.one (.bool false))) (hodd : (EV 25).pure 27 [.one (.lst rows)] = some (.one (.bool true)))
    (hq : (EV 21).pure 8 [.one (.lst p), .one (.lst [term7])] = some (.one (.lst q))) (hq7 : (EV 25).pure 27 [.one (.lst [[.lst q]])] = some (.one (.bool true))) :
    ∃ s', evCode (EV 40) 1000 0 rest17 ⟨T, H⟩ = some (.ret, s') ∧ getT s'.T 6 = some (.one (.p (.bool true))) := by
  dsimp only [rest17, sndC, x3]
  apply exS (c' := tail17)
  rotate_left
  · intro r hr
    apply keep_step hT
    apply seq_region
    · apply ops_step (oper_p rfl rfl rfl rfl)
      apply ops_step (oper_p rfl rfl rfl rfl)
      apply ops_step (oper_r rfl rfl (hpc (EV_call rfl)) (call_oL ho (EV_call rfl) ((EV_le (by decide)).pure _ _ _ (meet1 hodd)) rfl))
      apply ops_step (oper_p rfl rfl rfl rfl)
      apply ops_step (oper_p rfl rfl rfl rfl)
      apply ops_step (oper_p rfl rfl rfl rfl)
      apply ops_step (oper_p rfl rfl rfl rfl)
      apply ops_step (oper_p rfl rfl rfl rfl)
      rfl
    apply keep_step (T' := [(2, .one (.p a)), (7, .one (.p (.bool true))), (8, .one (.p l)), (9, .one (.p (.lst p))), (10, .one (.p (.lst [term7]))), (12, .one d), (13, lN), (14, lO)]) rfl
    apply seq_region
    · apply ops_step (oper_p rfl rfl rfl rfl)
      apply ops_step (oper_p rfl rfl rfl rfl)
      apply ops_step (oper_r rfl rfl (hpc (EV_call rfl)) (call_oR ho (EV_call rfl) ((EV_le (by decide)).pure _ _ _ (meet2 hl hodd)) rfl))
      apply ops_step (oper_p rfl rfl rfl rfl)
      apply ops_step (oper_p rfl rfl rfl rfl)
      apply ops_step (oper_p rfl rfl rfl rfl)
      apply ops_step (oper_p rfl rfl rfl rfl)
      apply ops_step (oper_p rfl rfl rfl rfl)
      rfl
    apply keep_step (T' := [(2, .one (.p a)), (7, .one (.p (.bool true))), (8, .one (.p l)), (9, .one (.p (.lst p))), (10, .one (.p (.lst [term7]))), (12, .one d), (13, lN), (14, lO), (15, lN), (16, lO)]) rfl
    apply seq_region
    · apply ops_step (oper_p rfl rfl rfl rfl)
      apply ops_step (oper_p rfl rfl rfl rfl)
      apply ops_step (oper_r rfl rfl (hpc (EV_call rfl)) (call_oL ho (EV_call rfl) ((EV_le (by decide)).pure _ _ _ (quot1 hodd)) rfl))
      apply ops_step (oper_p rfl rfl rfl rfl)
      apply ops_step (oper_p rfl rfl rfl rfl)
      apply ops_step (oper_p rfl rfl rfl rfl)
      apply ops_step (oper_p rfl rfl rfl rfl)
      apply ops_step (oper_p rfl rfl rfl rfl)
      rfl
    apply keep_step (T' := [(2, .one (.p a)), (7, .one (.p (.bool true))), (8, .one (.p l)), (9, .one (.p (.lst p))), (10, .one (.p (.lst [term7]))), (12, .one d), (13, lN), (14, lO), (15, lN), (16, lO), (17, lN), (18, lO)]) rfl
    apply seq_region
    · apply ops_step (oper_p rfl rfl rfl rfl)
      apply ops_step (oper_p rfl rfl rfl rfl)
      apply ops_step (oper_p rfl rfl rfl rfl)
      apply ops_step (oper_p rfl rfl (hpc (EV_call rfl)) (call_one2 (EV_call rfl) ((EV_le (by decide)).pure _ _ _ hq)))
      apply ops_step (oper_p rfl rfl (hpc (EV_call rfl)) (call_one2 (EV_call rfl) ((EV_le (by decide)).pure _ _ _ (quot2 hl hq7))))
      apply ops_step (oper_p rfl rfl rfl rfl)
      apply ops_step (oper_p rfl rfl rfl rfl)
      apply ops_step (oper_p rfl rfl rfl rfl)
      apply ops_step (oper_p rfl rfl rfl rfl)
      apply ops_step (oper_p rfl rfl rfl rfl)
      rfl
    apply keep_step (T' := [(2, .one (.p a)), (7, .one (.p (.bool true))), (8, .one (.p l)), (9, .one (.p (.lst p))), (10, .one (.p (.lst [term7]))), (12, .one d), (13, lN), (14, lO), (15, lN), (16, lO), (17, lN), (18, lO), (19, lN), (20, lO)]) rfl
    apply seq_region
    · apply ops_step (oper_p rfl rfl rfl rfl)
      apply ops_step (oper_p rfl rfl rfl rfl)
      apply ops_step (oper_p rfl rfl rfl rfl)
      apply ops_step (oper_p rfl rfl (hpc (EV_call rfl)) (call_one2 (EV_call rfl) ((EV_le (by decide)).pure _ _ _ hq)))
      apply ops_step (oper_p rfl rfl (hpc (EV_call rfl)) (call_one2 (EV_call rfl) ((EV_le (by decide)).pure _ _ _ (sat2 hl hq7))))
      apply ops_step (oper_p rfl rfl rfl rfl)
      apply ops_step (oper_p rfl rfl rfl rfl)
      apply ops_step (oper_p rfl rfl rfl rfl)
      apply ops_step (oper_p rfl rfl rfl rfl)
      apply ops_step (oper_p rfl rfl rfl rfl)
      apply ops_step (oper_p rfl rfl rfl rfl)
      apply ops_step (oper_p rfl rfl rfl rfl)
      rfl
    apply keep_step (T' := [(2, .one (.p a)), (7, .one (.p (.bool true))), (8, .one (.p l)), (9, .one (.p (.lst p))), (10, .one (.p (.lst [term7]))), (12, .one d), (13, lN), (14, lO), (15, lN), (16, lO), (17, lN), (18, lO), (19, lN), (20, lO), (21, lN), (22, lZ), (23, lO)]) rfl
    apply seq_region
    · apply ops_step (oper_p rfl rfl rfl rfl)
      apply ops_step (oper_p rfl rfl rfl rfl)
      apply ops_step (oper_r rfl rfl (hpc (EV_call rfl)) (call_oL ho (EV_call rfl) ((EV_le (by decide)).pure _ _ _ (sat1 hodd)) rfl))
      apply ops_step (oper_p rfl rfl rfl rfl)
      apply ops_step (oper_p rfl rfl rfl rfl)
      apply ops_step (oper_p rfl rfl rfl rfl)
      apply ops_step (oper_p rfl rfl rfl rfl)
      apply ops_step (oper_p rfl rfl rfl rfl)
      apply ops_step (oper_p rfl rfl rfl rfl)
      apply ops_step (oper_p rfl rfl rfl rfl)
      rfl
    apply keep_step (T' := [(2, .one (.p a)), (7, .one (.p (.bool true))), (8, .one (.p l)), (9, .one (.p (.lst p))), (10, .one (.p (.lst [term7]))), (12, .one d), (13, lN), (14, lO), (15, lN), (16, lO), (17, lN), (18, lO), (19, lN), (20, lO), (21, lN), (22, lZ), (23, lO), (24, lN), (25, lZ), (26, lO)]) rfl
    apply seq_region
    · apply ops_step (oper_p rfl rfl rfl rfl)
      apply ops_step (oper_p rfl rfl rfl rfl)
      apply ops_step (oper_r rfl rfl (hpc (EV_call rfl)) (call_oL ho (EV_call rfl) ((EV_le (by decide)).pure _ _ _ (elim1 hodd)) rfl))
      apply ops_step (oper_p rfl rfl rfl rfl)
      apply ops_step (oper_p rfl rfl rfl rfl)
      apply ops_step (oper_p rfl rfl rfl rfl)
      apply ops_step (oper_p rfl rfl rfl rfl)
      apply ops_step (oper_p rfl rfl rfl rfl)
      rfl
    apply keep_step (T' := [(7, .one (.p (.bool true))), (8, .one (.p l)), (9, .one (.p (.lst p))), (10, .one (.p (.lst [term7]))), (12, .one d), (13, lN), (14, lO), (15, lN), (16, lO), (17, lN), (18, lO), (19, lN), (20, lO), (21, lN), (22, lZ), (23, lO), (24, lN), (25, lZ), (26, lO), (27, lN), (28, lO)]) rfl
    apply seq_region
    · apply ops_step (oper_p rfl rfl rfl rfl)
      apply ops_step (oper_p rfl rfl rfl rfl)
      apply ops_step (oper_p rfl rfl (hpc (EV_call rfl)) (call_one2 (EV_call rfl) ((EV_le (by decide)).pure _ _ _ hq)))
      apply ops_step (oper_p rfl rfl rfl rfl)
      apply ops_step (oper_p rfl rfl (hpc (EV_call rfl)) (call_one2 (EV_call rfl) ((EV_le (by decide)).pure _ _ _ (pow2 hl hq7))))
      apply ops_step (oper_p rfl rfl rfl rfl)
      apply ops_step (oper_p rfl rfl rfl rfl)
      apply ops_step (oper_p rfl rfl rfl rfl)
      apply ops_step (oper_p rfl rfl rfl rfl)
      apply ops_step (oper_p rfl rfl rfl rfl)
      rfl
    apply keep_step (T' := [(7, .one (.p (.bool true))), (9, .one (.p (.lst p))), (12, .one d), (13, lN), (14, lO), (15, lN), (16, lO), (17, lN), (18, lO), (19, lN), (20, lO), (21, lN), (22, lZ), (23, lO), (24, lN), (25, lZ), (26, lO), (27, lN), (28, lO), (29, lZ), (30, lO)]) rfl
    apply seq_region
    · apply ops_step (oper_p rfl rfl rfl rfl)
      apply ops_step (oper_p rfl rfl rfl rfl)
      apply ops_step (oper_r rfl rfl (hpc (EV_call rfl)) (call_oR ho (EV_call rfl) ((EV_le (by decide)).pure _ _ _ (pow1 hodd)) rfl))
      apply ops_step (oper_p rfl rfl rfl rfl)
      apply ops_step (oper_p rfl rfl rfl rfl)
      apply ops_step (oper_p rfl rfl rfl rfl)
      apply ops_step (oper_p rfl rfl rfl rfl)
      apply ops_step (oper_p rfl rfl rfl rfl)
      rfl
    exact hr
  · exact tail_ev rfl

set_option maxRecDepth 100000 in
set_option maxHeartbeats 2000000 in
theorem pre_00 {L R : PL} {n : Nat} {p o q : List (List PL)} (hn : n % 2 = 0) (g1 : (EV 24).pure 5 [.one L] = some (.one (.lst []))) (g2 : (EV 23).pure 6 [.agg [R]] = some (.one (.lst p)))
    (g3 : (EV 21).pure 8 [.one (.lst [term7]), .one (.lst p)] = some (.one (.lst o))) (g4 : (EV 21).pure 8 [.one (.lst p), .one (.lst [term7])] = some (.one (.lst q)))
    (hl : (EV 25).pure 27 [.one (.lst [])] = some (.one (.bool false))) (hodd : (EV 25).pure 27 [.one (.lst [[.lst o]])] = some (.one (.bool true))) (hq7 : (EV 25).pure 27 [.one (.lst [[.lst q]])] = some (.one (.bool true))) :
    ∃ s', evCode (EV 40) 1000 0 x3.body ⟨[(0, .one (.p L)), (1, .agg [.p R]), (2, .one (.p (.int .u8 (.ofNat n))))], []⟩ = some (.ret, s') ∧ getT s'.T 6 = some (.one (.p (.bool true))) := by
  dsimp only [x3]
  apply exS (c' := rest17)
  rotate_left
  · intro r hr
    apply seq_region
    · apply ops_step (oper_yes rfl rfl rfl rfl)
      apply ops_step (oper_p rfl rfl rfl rfl)
      rfl
    apply seq_region
    · apply ops_step (oper_p rfl rfl (hpc (EV_call rfl)) (call_0 (EV_call rfl) ex_40))
      apply ops_step (oper_p rfl rfl rfl rfl)
      rfl
    apply seq_normal
    · apply seq_region
      · apply ops_step (oper_p rfl rfl rfl rfl)
        apply ops_step (oper_p rfl rfl rfl rfl)
        rfl
      apply cond_f rfl; rfl
    apply seq_draw
    · apply draw_of
      · apply drw_step (oper_p rfl rfl rfl rfl) rfl
        apply drw_step (oper_p rfl rfl (hpc (EV_call rfl)) (call_one1 (EV_call rfl) ((EV_le (by decide)).pure _ _ _ g1))) (EV_call rfl)
        apply drw_step (oper_r rfl rfl rfl rfl) rfl
        apply drw_step (oper_p rfl rfl (hpc (EV_call rfl)) (call_agg1 (x := [R]) (EV_call rfl) ((EV_le (by decide)).pure _ _ _ g2))) (EV_call rfl)
        apply drw_step (oper_p rfl rfl rfl rfl) rfl
        apply drw_step (oper_p rfl rfl rfl rfl) rfl
        exact drw_nil
      · simp [footsOk, footOk, applyWr, addAl]
    apply seq_region
    · apply ops_step (oper_p rfl rfl (hpc (EV_call rfl)) (call_one1 (EV_call rfl) ((EV_le (by decide)).pure _ _ _ var7_ev)))
      apply ops_step (oper_p rfl rfl rfl rfl)
      apply ops_step (oper_p rfl rfl rfl rfl)
      apply ops_step (oper_p rfl rfl rfl rfl)
      apply ops_step (oper_p rfl rfl rfl rfl)
      apply ops_step (oper_p rfl rfl rfl rfl)
      rfl
    apply seq_region
    · apply ops_step (oper_yes rfl rfl rfl rfl)
      apply ops_step (oper_p rfl rfl rfl rfl)
      apply ops_step (oper_yes rfl rfl rfl rfl)
      apply ops_step (oper_p rfl rfl rfl rfl)
      apply ops_step (oper_p rfl rfl rfl rfl)
      apply ops_step (oper_p rfl rfl (hpc (EV_call rfl)) (call_one2 (EV_call rfl) ((EV_le (by decide)).pure _ _ _ g3)))
      apply ops_step (oper_yes rfl rfl rfl rfl)
      apply ops_step (oper_yes rfl rfl rfl rfl)
      apply ops_step (oper_p rfl rfl rfl rfl)
      rfl
    apply keep_step (T' := [(2, .one (.p (.int .u8 (.ofNat n)))), (7, .one (.p (.bool true))), (8, .one (.p (.lst []))), (9, .one (.p (.lst p))), (10, .one (.p (.lst [term7]))), (12, .one (.own 1 2 0 1))]) rfl
    apply seq_normal
    · apply seq_region
      · apply ops_step (oper_p rfl rfl rfl rfl)
        apply ops_step (oper_p rfl rfl rfl (rem2 hn))
        apply ops_step (oper_p rfl rfl rfl rfl)
        rfl
      apply cond_f rfl; rfl
    exact hr
  · exact rest_ev (a := .int .u8 (.ofNat n)) (l := .lst []) (p := p) (q := q) (rows := [[.lst o]]) rfl ⟨rfl, rfl⟩ hl hodd g4 hq7

set_option maxRecDepth 100000 in
set_option maxHeartbeats 2000000 in
theorem pre_01 {L R : PL} {n : Nat} {p o q : List (List PL)} (hn : n % 2 = 1) (g1 : (EV 24).pure 5 [.one L] = some (.one (.lst []))) (g2 : (EV 23).pure 6 [.agg [R]] = some (.one (.lst p)))
    (g3 : (EV 21).pure 8 [.one (.lst [term7]), .one (.lst p)] = some (.one (.lst o))) (g4 : (EV 21).pure 8 [.one (.lst p), .one (.lst [term7])] = some (.one (.lst q)))
    (hl : (EV 25).pure 27 [.one (.lst [])] = some (.one (.bool false))) (hodd : (EV 25).pure 27 [.one (.lst [[.lst o]])] = some (.one (.bool true))) (hq7 : (EV 25).pure 27 [.one (.lst [[.lst q]])] = some (.one (.bool true))) :
    ∃ s', evCode (EV 40) 1000 0 x3.body ⟨[(0, .one (.p L)), (1, .agg [.p R]), (2, .one (.p (.int .u8 (.ofNat n))))], []⟩ = some (.ret, s') ∧ getT s'.T 6 = some (.one (.p (.bool true))) := by
  dsimp only [x3]
  apply exS (c' := rest17)
  rotate_left
  · intro r hr
    apply seq_region
    · apply ops_step (oper_yes rfl rfl rfl rfl)
      apply ops_step (oper_p rfl rfl rfl rfl)
      rfl
    apply seq_region
    · apply ops_step (oper_p rfl rfl (hpc (EV_call rfl)) (call_0 (EV_call rfl) ex_40))
      apply ops_step (oper_p rfl rfl rfl rfl)
      rfl
    apply seq_normal
    · apply seq_region
      · apply ops_step (oper_p rfl rfl rfl rfl)
        apply ops_step (oper_p rfl rfl rfl rfl)
        rfl
      apply cond_f rfl; rfl
    apply seq_draw
    · apply draw_of
      · apply drw_step (oper_p rfl rfl rfl rfl) rfl
        apply drw_step (oper_p rfl rfl (hpc (EV_call rfl)) (call_one1 (EV_call rfl) ((EV_le (by decide)).pure _ _ _ g1))) (EV_call rfl)
        apply drw_step (oper_r rfl rfl rfl rfl) rfl
        apply drw_step (oper_p rfl rfl (hpc (EV_call rfl)) (call_agg1 (x := [R]) (EV_call rfl) ((EV_le (by decide)).pure _ _ _ g2))) (EV_call rfl)
        apply drw_step (oper_p rfl rfl rfl rfl) rfl
        apply drw_step (oper_p rfl rfl rfl rfl) rfl
        exact drw_nil
      · simp [footsOk, footOk, applyWr, addAl]
    apply seq_region
    · apply ops_step (oper_p rfl rfl (hpc (EV_call rfl)) (call_one1 (EV_call rfl) ((EV_le (by decide)).pure _ _ _ var7_ev)))
      apply ops_step (oper_p rfl rfl rfl rfl)
      apply ops_step (oper_p rfl rfl rfl rfl)
      apply ops_step (oper_p rfl rfl rfl rfl)
      apply ops_step (oper_p rfl rfl rfl rfl)
      apply ops_step (oper_p rfl rfl rfl rfl)
      rfl
    apply seq_region
    · apply ops_step (oper_yes rfl rfl rfl rfl)
      apply ops_step (oper_p rfl rfl rfl rfl)
      apply ops_step (oper_yes rfl rfl rfl rfl)
      apply ops_step (oper_p rfl rfl rfl rfl)
      apply ops_step (oper_p rfl rfl rfl rfl)
      apply ops_step (oper_p rfl rfl (hpc (EV_call rfl)) (call_one2 (EV_call rfl) ((EV_le (by decide)).pure _ _ _ g3)))
      apply ops_step (oper_yes rfl rfl rfl rfl)
      apply ops_step (oper_yes rfl rfl rfl rfl)
      apply ops_step (oper_p rfl rfl rfl rfl)
      rfl
    apply keep_step (T' := [(2, .one (.p (.int .u8 (.ofNat n)))), (7, .one (.p (.bool true))), (8, .one (.p (.lst []))), (9, .one (.p (.lst p))), (10, .one (.p (.lst [term7]))), (12, .one (.own 1 2 0 1))]) rfl
    apply seq_normal
    · apply seq_region
      · apply ops_step (oper_p rfl rfl rfl rfl)
        apply ops_step (oper_p rfl rfl rfl (rem2 hn))
        apply ops_step (oper_p rfl rfl rfl rfl)
        rfl
      apply cond_t rfl
      apply just_region
      apply ops_step (oper_p rfl rfl rfl rfl)
      apply ops_step (oper_p rfl rfl rfl rfl)
      apply ops_step (oper_p rfl rfl (hpc (EV_call rfl)) (call_one2 (EV_call rfl) ((EV_le (by decide)).pure _ _ _ g3)))
      apply ops_step (oper_yes rfl rfl rfl rfl)
      apply ops_step (oper_p rfl rfl rfl rfl)
      apply ops_step (oper_yes rfl rfl rfl rfl)
      apply ops_step (oper_p rfl rfl rfl rfl)
      rfl
    exact hr
  · exact rest_ev (a := .int .u8 (.ofNat n)) (l := .lst []) (p := p) (q := q) (rows := [[.lst o]]) rfl ⟨rfl, rfl⟩ hl hodd g4 hq7

set_option maxRecDepth 100000 in
set_option maxHeartbeats 2000000 in
theorem pre_10 {L R : PL} {n : Nat} {a : List (List PL)} {p o q : List (List PL)} (hn : n % 2 = 0) (g1 : (EV 24).pure 5 [.one L] = some (.one (.lst [[.lst a]]))) (g2 : (EV 23).pure 6 [.agg [R]] = some (.one (.lst p)))
    (g3 : (EV 21).pure 8 [.one (.lst [term7]), .one (.lst p)] = some (.one (.lst o))) (g4 : (EV 21).pure 8 [.one (.lst p), .one (.lst [term7])] = some (.one (.lst q)))
    (hl : (EV 25).pure 27 [.one (.lst [[.lst a]])] = some (.one (.bool false))) (hodd : (EV 25).pure 27 [.one (.lst [[.lst a], [.lst o]])] = some (.one (.bool true))) (hq7 : (EV 25).pure 27 [.one (.lst [[.lst q]])] = some (.one (.bool true))) :
    ∃ s', evCode (EV 40) 1000 0 x3.body ⟨[(0, .one (.p L)), (1, .agg [.p R]), (2, .one (.p (.int .u8 (.ofNat n))))], []⟩ = some (.ret, s') ∧ getT s'.T 6 = some (.one (.p (.bool true))) := by
  dsimp only [x3]
  apply exS (c' := rest17)
  rotate_left
  · intro r hr
    apply seq_region
    · apply ops_step (oper_yes rfl rfl rfl rfl)
      apply ops_step (oper_p rfl rfl rfl rfl)
      rfl
    apply seq_region
    · apply ops_step (oper_p rfl rfl (hpc (EV_call rfl)) (call_0 (EV_call rfl) ex_40))
      apply ops_step (oper_p rfl rfl rfl rfl)
      rfl
    apply seq_normal
    · apply seq_region
      · apply ops_step (oper_p rfl rfl rfl rfl)
        apply ops_step (oper_p rfl rfl rfl rfl)
        rfl
      apply cond_f rfl; rfl
    apply seq_draw
    · apply draw_of
      · apply drw_step (oper_p rfl rfl rfl rfl) rfl
        apply drw_step (oper_p rfl rfl (hpc (EV_call rfl)) (call_one1 (EV_call rfl) ((EV_le (by decide)).pure _ _ _ g1))) (EV_call rfl)
        apply drw_step (oper_r rfl rfl rfl rfl) rfl
        apply drw_step (oper_p rfl rfl (hpc (EV_call rfl)) (call_agg1 (x := [R]) (EV_call rfl) ((EV_le (by decide)).pure _ _ _ g2))) (EV_call rfl)
        apply drw_step (oper_p rfl rfl rfl rfl) rfl
        apply drw_step (oper_p rfl rfl rfl rfl) rfl
        exact drw_nil
      · simp [footsOk, footOk, applyWr, addAl]
    apply seq_region
    · apply ops_step (oper_p rfl rfl (hpc (EV_call rfl)) (call_one1 (EV_call rfl) ((EV_le (by decide)).pure _ _ _ var7_ev)))
      apply ops_step (oper_p rfl rfl rfl rfl)
      apply ops_step (oper_p rfl rfl rfl rfl)
      apply ops_step (oper_p rfl rfl rfl rfl)
      apply ops_step (oper_p rfl rfl rfl rfl)
      apply ops_step (oper_p rfl rfl rfl rfl)
      rfl
    apply seq_region
    · apply ops_step (oper_yes rfl rfl rfl rfl)
      apply ops_step (oper_p rfl rfl rfl rfl)
      apply ops_step (oper_yes rfl rfl rfl rfl)
      apply ops_step (oper_p rfl rfl rfl rfl)
      apply ops_step (oper_p rfl rfl rfl rfl)
      apply ops_step (oper_p rfl rfl (hpc (EV_call rfl)) (call_one2 (EV_call rfl) ((EV_le (by decide)).pure _ _ _ g3)))
      apply ops_step (oper_yes rfl rfl rfl rfl)
      apply ops_step (oper_yes rfl rfl rfl rfl)
      apply ops_step (oper_p rfl rfl rfl rfl)
      rfl
    apply keep_step (T' := [(2, .one (.p (.int .u8 (.ofNat n)))), (7, .one (.p (.bool true))), (8, .one (.p (.lst [[.lst a]]))), (9, .one (.p (.lst p))), (10, .one (.p (.lst [term7]))), (12, .one (.own 1 2 0 2))]) rfl
    apply seq_normal
    · apply seq_region
      · apply ops_step (oper_p rfl rfl rfl rfl)
        apply ops_step (oper_p rfl rfl rfl (rem2 hn))
        apply ops_step (oper_p rfl rfl rfl rfl)
        rfl
      apply cond_f rfl; rfl
    exact hr
  · exact rest_ev (a := .int .u8 (.ofNat n)) (l := .lst [[.lst a]]) (p := p) (q := q) (rows := [[.lst a], [.lst o]]) rfl ⟨rfl, rfl⟩ hl hodd g4 hq7

set_option maxRecDepth 100000 in
set_option maxHeartbeats 2000000 in
theorem pre_11 {L R : PL} {n : Nat} {a : List (List PL)} {p o q : List (List PL)} (hn : n % 2 = 1) (g1 : (EV 24).pure 5 [.one L] = some (.one (.lst [[.lst a]]))) (g2 : (EV 23).pure 6 [.agg [R]] = some (.one (.lst p)))
    (g3 : (EV 21).pure 8 [.one (.lst [term7]), .one (.lst p)] = some (.one (.lst o))) (g4 : (EV 21).pure 8 [.one (.lst p), .one (.lst [term7])] = some (.one (.lst q)))
    (hl : (EV 25).pure 27 [.one (.lst [[.lst a]])] = some (.one (.bool false))) (hodd : (EV 25).pure 27 [.one (.lst [[.lst o], [.lst a]])] = some (.one (.bool true))) (hq7 : (EV 25).pure 27 [.one (.lst [[.lst q]])] = some (.one (.bool true))) :
    ∃ s', evCode (EV 40) 1000 0 x3.body ⟨[(0, .one (.p L)), (1, .agg [.p R]), (2, .one (.p (.int .u8 (.ofNat n))))], []⟩ = some (.ret, s') ∧ getT s'.T 6 = some (.one (.p (.bool true))) := by
  dsimp only [x3]
  apply exS (c' := rest17)
  rotate_left
  · intro r hr
    apply seq_region
    · apply ops_step (oper_yes rfl rfl rfl rfl)
      apply ops_step (oper_p rfl rfl rfl rfl)
      rfl
    apply seq_region
    · apply ops_step (oper_p rfl rfl (hpc (EV_call rfl)) (call_0 (EV_call rfl) ex_40))
      apply ops_step (oper_p rfl rfl rfl rfl)
      rfl
    apply seq_normal
    · apply seq_region
      · apply ops_step (oper_p rfl rfl rfl rfl)
        apply ops_step (oper_p rfl rfl rfl rfl)
        rfl
      apply cond_f rfl; rfl
    apply seq_draw
    · apply draw_of
      · apply drw_step (oper_p rfl rfl rfl rfl) rfl
        apply drw_step (oper_p rfl rfl (hpc (EV_call rfl)) (call_one1 (EV_call rfl) ((EV_le (by decide)).pure _ _ _ g1))) (EV_call rfl)
        apply drw_step (oper_r rfl rfl rfl rfl) rfl
        apply drw_step (oper_p rfl rfl (hpc (EV_call rfl)) (call_agg1 (x := [R]) (EV_call rfl) ((EV_le (by decide)).pure _ _ _ g2))) (EV_call rfl)
        apply drw_step (oper_p rfl rfl rfl rfl) rfl
        apply drw_step (oper_p rfl rfl rfl rfl) rfl
        exact drw_nil
      · simp [footsOk, footOk, applyWr, addAl]
    apply seq_region
    · apply ops_step (oper_p rfl rfl (hpc (EV_call rfl)) (call_one1 (EV_call rfl) ((EV_le (by decide)).pure _ _ _ var7_ev)))
      apply ops_step (oper_p rfl rfl rfl rfl)
      apply ops_step (oper_p rfl rfl rfl rfl)
      apply ops_step (oper_p rfl rfl rfl rfl)
      apply ops_step (oper_p rfl rfl rfl rfl)
      apply ops_step (oper_p rfl rfl rfl rfl)
      rfl
    apply seq_region
    · apply ops_step (oper_yes rfl rfl rfl rfl)
      apply ops_step (oper_p rfl rfl rfl rfl)
      apply ops_step (oper_yes rfl rfl rfl rfl)
      apply ops_step (oper_p rfl rfl rfl rfl)
      apply ops_step (oper_p rfl rfl rfl rfl)
      apply ops_step (oper_p rfl rfl (hpc (EV_call rfl)) (call_one2 (EV_call rfl) ((EV_le (by decide)).pure _ _ _ g3)))
      apply ops_step (oper_yes rfl rfl rfl rfl)
      apply ops_step (oper_yes rfl rfl rfl rfl)
      apply ops_step (oper_p rfl rfl rfl rfl)
      rfl
    apply keep_step (T' := [(2, .one (.p (.int .u8 (.ofNat n)))), (7, .one (.p (.bool true))), (8, .one (.p (.lst [[.lst a]]))), (9, .one (.p (.lst p))), (10, .one (.p (.lst [term7]))), (12, .one (.own 1 2 0 2))]) rfl
    apply seq_normal
    · apply seq_region
      · apply ops_step (oper_p rfl rfl rfl rfl)
        apply ops_step (oper_p rfl rfl rfl (rem2 hn))
        apply ops_step (oper_p rfl rfl rfl rfl)
        rfl
      apply cond_t rfl
      apply just_region
      apply ops_step (oper_p rfl rfl rfl rfl)
      apply ops_step (oper_p rfl rfl rfl rfl)
      apply ops_step (oper_p rfl rfl (hpc (EV_call rfl)) (call_one2 (EV_call rfl) ((EV_le (by decide)).pure _ _ _ g3)))
      apply ops_step (oper_yes rfl rfl rfl rfl)
      apply ops_step (oper_p rfl rfl rfl rfl)
      apply ops_step (oper_yes rfl rfl rfl rfl)
      apply ops_step (oper_p rfl rfl rfl rfl)
      rfl
    exact hr
  · exact rest_ev (a := .int .u8 (.ofNat n)) (l := .lst [[.lst a]]) (p := p) (q := q) (rows := [[.lst o], [.lst a]]) rfl ⟨rfl, rfl⟩ hl hodd g4 hq7

set_option maxRecDepth 100000 in
set_option maxHeartbeats 2000000 in
theorem pre_20 {L R : PL} {n : Nat} {a b : List (List PL)} {p o q : List (List PL)} (hn : n % 2 = 0) (g1 : (EV 24).pure 5 [.one L] = some (.one (.lst [[.lst a], [.lst b]]))) (g2 : (EV 23).pure 6 [.agg [R]] = some (.one (.lst p)))
    (g3 : (EV 21).pure 8 [.one (.lst [term7]), .one (.lst p)] = some (.one (.lst o))) (g4 : (EV 21).pure 8 [.one (.lst p), .one (.lst [term7])] = some (.one (.lst q)))
    (hl : (EV 25).pure 27 [.one (.lst [[.lst a], [.lst b]])] = some (.one (.bool false))) (hodd : (EV 25).pure 27 [.one (.lst [[.lst a], [.lst b], [.lst o]])] = some (.one (.bool true))) (hq7 : (EV 25).pure 27 [.one (.lst [[.lst q]])] = some (.one (.bool true))) :
    ∃ s', evCode (EV 40) 1000 0 x3.body ⟨[(0, .one (.p L)), (1, .agg [.p R]), (2, .one (.p (.int .u8 (.ofNat n))))], []⟩ = some (.ret, s') ∧ getT s'.T 6 = some (.one (.p (.bool true))) := by
  dsimp only [x3]
  apply exS (c' := rest17)
  rotate_left
  · intro r hr
    apply seq_region
    · apply ops_step (oper_yes rfl rfl rfl rfl)
      apply ops_step (oper_p rfl rfl rfl rfl)
      rfl
    apply seq_region
    · apply ops_step (oper_p rfl rfl (hpc (EV_call rfl)) (call_0 (EV_call rfl) ex_40))
      apply ops_step (oper_p rfl rfl rfl rfl)
      rfl
    apply seq_normal
    · apply seq_region
      · apply ops_step (oper_p rfl rfl rfl rfl)
        apply ops_step (oper_p rfl rfl rfl rfl)
        rfl
      apply cond_f rfl; rfl
    apply seq_draw
    · apply draw_of
      · apply drw_step (oper_p rfl rfl rfl rfl) rfl
        apply drw_step (oper_p rfl rfl (hpc (EV_call rfl)) (call_one1 (EV_call rfl) ((EV_le (by decide)).pure _ _ _ g1))) (EV_call rfl)
        apply drw_step (oper_r rfl rfl rfl rfl) rfl
        apply drw_step (oper_p rfl rfl (hpc (EV_call rfl)) (call_agg1 (x := [R]) (EV_call rfl) ((EV_le (by decide)).pure _ _ _ g2))) (EV_call rfl)
        apply drw_step (oper_p rfl rfl rfl rfl) rfl
        apply drw_step (oper_p rfl rfl rfl rfl) rfl
        exact drw_nil
      · simp [footsOk, footOk, applyWr, addAl]
    apply seq_region
    · apply ops_step (oper_p rfl rfl (hpc (EV_call rfl)) (call_one1 (EV_call rfl) ((EV_le (by decide)).pure _ _ _ var7_ev)))
      apply ops_step (oper_p rfl rfl rfl rfl)
      apply ops_step (oper_p rfl rfl rfl rfl)
      apply ops_step (oper_p rfl rfl rfl rfl)
      apply ops_step (oper_p rfl rfl rfl rfl)
      apply ops_step (oper_p rfl rfl rfl rfl)
      rfl
    apply seq_region
    · apply ops_step (oper_yes rfl rfl rfl rfl)
      apply ops_step (oper_p rfl rfl rfl rfl)
      apply ops_step (oper_yes rfl rfl rfl rfl)
      apply ops_step (oper_p rfl rfl rfl rfl)
      apply ops_step (oper_p rfl rfl rfl rfl)
      apply ops_step (oper_p rfl rfl (hpc (EV_call rfl)) (call_one2 (EV_call rfl) ((EV_le (by decide)).pure _ _ _ g3)))
      apply ops_step (oper_yes rfl rfl rfl rfl)
      apply ops_step (oper_yes rfl rfl rfl rfl)
      apply ops_step (oper_p rfl rfl rfl rfl)
      rfl
    apply keep_step (T' := [(2, .one (.p (.int .u8 (.ofNat n)))), (7, .one (.p (.bool true))), (8, .one (.p (.lst [[.lst a], [.lst b]]))), (9, .one (.p (.lst p))), (10, .one (.p (.lst [term7]))), (12, .one (.own 1 2 0 3))]) rfl
    apply seq_normal
    · apply seq_region
      · apply ops_step (oper_p rfl rfl rfl rfl)
        apply ops_step (oper_p rfl rfl rfl (rem2 hn))
        apply ops_step (oper_p rfl rfl rfl rfl)
        rfl
      apply cond_f rfl; rfl
    exact hr
  · exact rest_ev (a := .int .u8 (.ofNat n)) (l := .lst [[.lst a], [.lst b]]) (p := p) (q := q) (rows := [[.lst a], [.lst b], [.lst o]]) rfl ⟨rfl, rfl⟩ hl hodd g4 hq7

set_option maxRecDepth 100000 in
set_option maxHeartbeats 2000000 in
theorem pre_21 {L R : PL} {n : Nat} {a b : List (List PL)} {p o q : List (List PL)} (hn : n % 2 = 1) (g1 : (EV 24).pure 5 [.one L] = some (.one (.lst [[.lst a], [.lst b]]))) (g2 : (EV 23).pure 6 [.agg [R]] = some (.one (.lst p)))
    (g3 : (EV 21).pure 8 [.one (.lst [term7]), .one (.lst p)] = some (.one (.lst o))) (g4 : (EV 21).pure 8 [.one (.lst p), .one (.lst [term7])] = some (.one (.lst q)))
    (hl : (EV 25).pure 27 [.one (.lst [[.lst a], [.lst b]])] = some (.one (.bool false))) (hodd : (EV 25).pure 27 [.one (.lst [[.lst o], [.lst a], [.lst b]])] = some (.one (.bool true))) (hq7 : (EV 25).pure 27 [.one (.lst [[.lst q]])] = some (.one (.bool true))) :
    ∃ s', evCode (EV 40) 1000 0 x3.body ⟨[(0, .one (.p L)), (1, .agg [.p R]), (2, .one (.p (.int .u8 (.ofNat n))))], []⟩ = some (.ret, s') ∧ getT s'.T 6 = some (.one (.p (.bool true))) := by
  dsimp only [x3]
  apply exS (c' := rest17)
  rotate_left
  · intro r hr
    apply seq_region
    · apply ops_step (oper_yes rfl rfl rfl rfl)
      apply ops_step (oper_p rfl rfl rfl rfl)
      rfl
    apply seq_region
    · apply ops_step (oper_p rfl rfl (hpc (EV_call rfl)) (call_0 (EV_call rfl) ex_40))
      apply ops_step (oper_p rfl rfl rfl rfl)
      rfl
    apply seq_normal
    · apply seq_region
      · apply ops_step (oper_p rfl rfl rfl rfl)
        apply ops_step (oper_p rfl rfl rfl rfl)
        rfl
      apply cond_f rfl; rfl
    apply seq_draw
    · apply draw_of
      · apply drw_step (oper_p rfl rfl rfl rfl) rfl
        apply drw_step (oper_p rfl rfl (hpc (EV_call rfl)) (call_one1 (EV_call rfl) ((EV_le (by decide)).pure _ _ _ g1))) (EV_call rfl)
        apply drw_step (oper_r rfl rfl rfl rfl) rfl
        apply drw_step (oper_p rfl rfl (hpc (EV_call rfl)) (call_agg1 (x := [R]) (EV_call rfl) ((EV_le (by decide)).pure _ _ _ g2))) (EV_call rfl)
        apply drw_step (oper_p rfl rfl rfl rfl) rfl
        apply drw_step (oper_p rfl rfl rfl rfl) rfl
        exact drw_nil
      · simp [footsOk, footOk, applyWr, addAl]
    apply seq_region
    · apply ops_step (oper_p rfl rfl (hpc (EV_call rfl)) (call_one1 (EV_call rfl) ((EV_le (by decide)).pure _ _ _ var7_ev)))
      apply ops_step (oper_p rfl rfl rfl rfl)
      apply ops_step (oper_p rfl rfl rfl rfl)
      apply ops_step (oper_p rfl rfl rfl rfl)
      apply ops_step (oper_p rfl rfl rfl rfl)
      apply ops_step (oper_p rfl rfl rfl rfl)
      rfl
    apply seq_region
    · apply ops_step (oper_yes rfl rfl rfl rfl)
      apply ops_step (oper_p rfl rfl rfl rfl)
      apply ops_step (oper_yes rfl rfl rfl rfl)
      apply ops_step (oper_p rfl rfl rfl rfl)
      apply ops_step (oper_p rfl rfl rfl rfl)
      apply ops_step (oper_p rfl rfl (hpc (EV_call rfl)) (call_one2 (EV_call rfl) ((EV_le (by decide)).pure _ _ _ g3)))
      apply ops_step (oper_yes rfl rfl rfl rfl)
      apply ops_step (oper_yes rfl rfl rfl rfl)
      apply ops_step (oper_p rfl rfl rfl rfl)
      rfl
    apply keep_step (T' := [(2, .one (.p (.int .u8 (.ofNat n)))), (7, .one (.p (.bool true))), (8, .one (.p (.lst [[.lst a], [.lst b]]))), (9, .one (.p (.lst p))), (10, .one (.p (.lst [term7]))), (12, .one (.own 1 2 0 3))]) rfl
    apply seq_normal
    · apply seq_region
      · apply ops_step (oper_p rfl rfl rfl rfl)
        apply ops_step (oper_p rfl rfl rfl (rem2 hn))
        apply ops_step (oper_p rfl rfl rfl rfl)
        rfl
      apply cond_t rfl
      apply just_region
      apply ops_step (oper_p rfl rfl rfl rfl)
      apply ops_step (oper_p rfl rfl rfl rfl)
      apply ops_step (oper_p rfl rfl (hpc (EV_call rfl)) (call_one2 (EV_call rfl) ((EV_le (by decide)).pure _ _ _ g3)))
      apply ops_step (oper_yes rfl rfl rfl rfl)
      apply ops_step (oper_p rfl rfl rfl rfl)
      apply ops_step (oper_yes rfl rfl rfl rfl)
      apply ops_step (oper_p rfl rfl rfl rfl)
      rfl
    exact hr
  · exact rest_ev (a := .int .u8 (.ofNat n)) (l := .lst [[.lst a], [.lst b]]) (p := p) (q := q) (rows := [[.lst o], [.lst a], [.lst b]]) rfl ⟨rfl, rfl⟩ hl hodd g4 hq7

end Go.Proofs.YthmlggklnfmidaaGreat
