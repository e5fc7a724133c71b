/- The sum of two polynomials (the reference's Add), evaluated on symbolic terms. -/
import Derived.Test.YthmlggklnfmidaaGreatBase
import Derived.Test.YthmlggklnfmidaaGreatEvSym
namespace Go.Proofs.YthmlggklnfmidaaGreat
open Go.Ev

def loopOf : XCode → Option XCode
  | .seq a b => match loopOf a with
    | some c => some c
    | none => loopOf b
  | .block _ c => loopOf c
  | .loop c => some c
  | .keep _ c => loopOf c
  | .scope c => loopOf c
  | _ => none
def loopD (c : XCode) : XCode := match loopOf c with
  | some d => d
  | none => .skip

def bAdd : XCode := loopD x8.body

/-- A polynomial's leaf: its terms, or nil. -/
def PolyL (L : PL) (es : List (List PL)) : Prop := L = .lst es ∨ (L = .nilS ∧ es = [])

section
variable {E : Oracle} {K b m n : Nat} {h : HF} {L0 L1 : PL} {es fs : List (List PL)} {c d : List PL}

theorem len_poly (hL : PolyL L0 es) : evOp E b .len [.one (.p L0)] h m = some (.pure (.one (.p (.int .i64 (.ofNat es.length))))) := by
  rcases hL with rfl | ⟨rfl, rfl⟩ <;> rfl
theorem idx_poly {i sz : Nat} {k : IntKind} (hL : PolyL L0 es) (hi : es[i]? = some c) (hc : c.length = sz) : evOp E b (.indexS sz) [.one (.p L0), .one (.p (.int k (.ofNat i)))] h m = some (.pure (.one (.p (.ref c)))) := by
  rcases hL with rfl | ⟨rfl, rfl⟩
  · exact idx_lst hi hc
  · simp at hi

/-- The state at the head of the loop. -/
structure AtA (L0 L1 : PL) (v n i k : Nat) (ch : List (List DL)) (G : List Blk) (s : St) : Prop where
  T : keepT s.T [0, 1, 5, 6, 7] = [(0, .one (.p L0)), (1, .one (.p L1)), (5, .one (.own 0 v 0 n)), (6, .one (.p (.int .i64 (.ofNat i)))), (7, .one (.p (.int .i64 (.ofNat k))))]
  H : s.H = ⟨false, v, 12, ch, false, 63⟩ :: G

theorem exN {c : XCode} {s s' : St} {P : St → Prop} (h : evCode E K b c s = some (.normal, s')) (k : P s') : ∃ s', evCode E K b c s = some (.normal, s') ∧ P s' := ⟨s', h, k⟩

def tblk (c : List PL) : Blk := ⟨false, 0, 12, [c.map .p], false, 63⟩

def sblk (c : List PL) : Blk := ⟨false, 0, 4, [c.map .p], false, 60⟩

theorem bld_term {s m : List DL} (hs : s.length = 4) (hm : m.length = 8) : evOp E b (.build zTerm [(0, 4), (4, 8)]) [.agg s, .agg m] h n = some ⟨.agg (s ++ m), [], [], []⟩ := by
  obtain ⟨a, b', c, d, rfl⟩ : ∃ a b c d, s = [a, b, c, d] := by
    match s, hs with
    | [a, b, c, d], _ => exact ⟨a, b, c, d, rfl⟩
  obtain ⟨m0, m1, m2, m3, m4, m5, m6, m7, rfl⟩ : ∃ m0 m1 m2 m3 m4 m5 m6 m7, m = [m0, m1, m2, m3, m4, m5, m6, m7] := by
    match m, hm with
    | [a, b, c, d, e, f, g, h], _ => exact ⟨a, b, c, d, e, f, g, h, rfl⟩
  rfl

theorem store_rat {x : Blk} {G : List Blk} {cs : List DL} (hc : cs.length = 4) : evOp E 0 (.store 4) [.one (.ptr (G.length + 1) 0 0 0), .agg cs] (HFof (x :: (G ++ [⟨false, 0, 4, [[.p (.bool false), .p .nilS, .p (.bool false), .p .nilS]], false, 60⟩]))) n =
    some ⟨.tup [], [], [(G.length + 1, ⟨false, 0, 4, [cs], false, 60⟩)], [G.length + 1]⟩ := store_end rfl rfl hc

theorem stepH {H H' : List Blk} {T : List (Nat × DV)} {c : XCode} {r : Option (Ex × St)} (h : H = H') (k : evCode E K b c ⟨T, H'⟩ = r) : evCode E K b c ⟨T, H⟩ = r := h ▸ k

variable {s4 : List PL} {g : Int} {v i k : Nat} {ch : List (List DL)} {G : List Blk}

/-- The calls of Add are pure. -/
structure AddM (E : Oracle) : Prop where
  cmp : isHeapCall E (.call 24) = false
  add : isHeapCall E (.call 25) = false
  sgn : isHeapCall E (.call 26) = false

set_option maxRecDepth 100000 in
set_option maxHeartbeats 1000000 in
theorem add_left_end (hM : AddM E) (h0 : PolyL L0 es) (h1 : PolyL L1 fs) (hi : es[i]? = some c) (hc : c.length = 12) (hk : k = fs.length) (hn : ch.length = n) (hb : n < 1000) (hib : i < 1000) (_hkb : k < 1000) {s : St} (hs : AtA L0 L1 v n i k ch G s) :
    ∃ s', evCode E K 0 bAdd s = some (.normal, s') ∧ AtA L0 L1 (v + 1) (n + 1) (i + 1) k (ch ++ [c.map .p]) (G ++ [tblk c]) s' := by
  have hlt : i < es.length := (List.getElem?_eq_some_iff.1 hi).1
  have htk : c.take 12 = c := List.take_of_length_le (by omega)
  obtain ⟨sT, sH⟩ := s
  obtain ⟨hT, hH⟩ := hs
  simp only at hT hH
  subst hH
  unfold bAdd
  dsimp only [x8, loopD, loopOf]
  apply exN
  apply keep_step hT
  apply seq_normal
  · apply seq_region
    · apply ops_step (oper_p rfl rfl rfl rfl)
      apply ops_step (oper_p rfl rfl rfl rfl)
      apply ops_step (oper_p rfl rfl rfl (len_poly h0))
      apply ops_step (oper_p rfl rfl rfl (lss_t hlt))
      apply ops_step (oper_p rfl rfl rfl rfl)
      apply ops_step (oper_no rfl)
      apply ops_step (oper_no rfl)
      apply ops_step (oper_no rfl)
      apply ops_step (oper_no rfl)
      apply ops_step (oper_p rfl rfl rfl rfl)
      rfl
    · apply keep_step (T' := [(0, .one (.p L0)), (1, .one (.p L1)), (5, .one (.own 0 (v) 0 (n))), (6, .one (.p (.int .i64 (.ofNat (i))))), (7, .one (.p (.int .i64 (.ofNat (k))))), (19, .one (.p (.bool true)))]) rfl; apply cond_t rfl; rfl
  · apply keep_step (T' := [(0, .one (.p L0)), (1, .one (.p L1)), (5, .one (.own 0 (v) 0 (n))), (6, .one (.p (.int .i64 (.ofNat (i))))), (7, .one (.p (.int .i64 (.ofNat (k)))))]) rfl; apply block_exit (j := 1)
    apply seq_exit
    apply seq_draw
    · apply draw_of
      · apply drw_step (oper_p rfl rfl rfl rfl) rfl
        apply drw_step (oper_p rfl rfl rfl rfl) rfl
        apply drw_step (oper_p rfl rfl rfl (len_poly h1)) rfl
        apply drw_step (oper_p rfl rfl rfl (eql_t hk)) rfl
        apply drw_step (oper_p rfl rfl rfl rfl) rfl
        repeat (first | apply drw_step (oper_no rfl) rfl | apply drw_step (oper_no rfl) hM.cmp)
        apply drw_step (oper_p rfl rfl rfl rfl) rfl
        exact drw_nil
      · refine feet_ok ?_; repeat' (first | exact trivial | rfl | constructor)
    · apply keep_step (T' := [(0, .one (.p L0)), (1, .one (.p L1)), (5, .one (.own 0 (v) 0 (n))), (6, .one (.p (.int .i64 (.ofNat (i))))), (7, .one (.p (.int .i64 (.ofNat (k))))), (43, .one (.p (.bool true)))]) rfl; apply cond_t rfl
      apply seq_region
      · apply ops_step (oper_p rfl rfl rfl rfl)
        apply ops_step (oper_p rfl rfl rfl rfl)
        apply ops_step (oper_p rfl rfl rfl rfl)
        apply ops_step (oper_p rfl rfl rfl (idx_poly h0 hi hc))
        apply ops_step (oper_p rfl rfl rfl (load_agg (by omega)))
        apply ops_step (oper_yes rfl rfl rfl (bs1 (by simp [hc])))
        apply ops_step (oper_yes rfl rfl rfl (app1 (by simp [hc]) hn (by simp [lim]; omega) (by omega)))
        apply ops_step (oper_p rfl rfl rfl rfl)
        rfl
      · apply keep_step (T' := [(0, .one (.p L0)), (1, .one (.p L1)), (5, .one (.own 0 (v + 1) 0 (n + 1))), (6, .one (.p (.int .i64 (.ofNat (i))))), (7, .one (.p (.int .i64 (.ofNat (k)))))]) rfl; apply seq_region
        · apply ops_step (oper_p rfl rfl rfl rfl)
          apply ops_step (oper_p rfl rfl rfl (add_n (y := 1) (by omega)))
          apply ops_step (oper_p rfl rfl rfl rfl)
          rfl
        · rfl
  · constructor
    · rfl
    · try simp only [htk]
      rfl

set_option maxRecDepth 100000 in
set_option maxHeartbeats 1000000 in
theorem add_left_cmp (hM : AddM E) (h0 : PolyL L0 es) (h1 : PolyL L1 fs) (hi : es[i]? = some c) (hc : c.length = 12) (hk : fs[k]? = some d) (hd : d.length = 12) (hz : E.pure 24 [.agg ((c.drop 4).take 8), .agg ((d.drop 4).take 8)] = some (.one (.int .i64 1))) (hn : ch.length = n) (hb : n < 1000) (hib : i < 1000) (_hkb : k < 1000) {s : St} (hs : AtA L0 L1 v n i k ch G s) :
    ∃ s', evCode E K 0 bAdd s = some (.normal, s') ∧ AtA L0 L1 (v + 1) (n + 1) (i + 1) k (ch ++ [c.map .p]) (G ++ [tblk c]) s' := by
  have hlt : i < es.length := (List.getElem?_eq_some_iff.1 hi).1
  have hltk : k < fs.length := (List.getElem?_eq_some_iff.1 hk).1
  have htk : c.take 12 = c := List.take_of_length_le (by omega)
  obtain ⟨sT, sH⟩ := s
  obtain ⟨hT, hH⟩ := hs
  simp only at hT hH
  subst hH
  unfold bAdd
  dsimp only [x8, loopD, loopOf]
  apply exN
  apply keep_step hT
  apply seq_normal
  · apply seq_region
    · apply ops_step (oper_p rfl rfl rfl rfl)
      apply ops_step (oper_p rfl rfl rfl rfl)
      apply ops_step (oper_p rfl rfl rfl (len_poly h0))
      apply ops_step (oper_p rfl rfl rfl (lss_t hlt))
      apply ops_step (oper_p rfl rfl rfl rfl)
      apply ops_step (oper_no rfl)
      apply ops_step (oper_no rfl)
      apply ops_step (oper_no rfl)
      apply ops_step (oper_no rfl)
      apply ops_step (oper_p rfl rfl rfl rfl)
      rfl
    · apply keep_step (T' := [(0, .one (.p L0)), (1, .one (.p L1)), (5, .one (.own 0 (v) 0 (n))), (6, .one (.p (.int .i64 (.ofNat (i))))), (7, .one (.p (.int .i64 (.ofNat (k))))), (19, .one (.p (.bool true)))]) rfl; apply cond_t rfl; rfl
  · apply keep_step (T' := [(0, .one (.p L0)), (1, .one (.p L1)), (5, .one (.own 0 (v) 0 (n))), (6, .one (.p (.int .i64 (.ofNat (i))))), (7, .one (.p (.int .i64 (.ofNat (k)))))]) rfl; apply block_exit (j := 1)
    apply seq_exit
    apply seq_draw
    · apply draw_of
      · apply drw_step (oper_p rfl rfl rfl rfl) rfl
        apply drw_step (oper_p rfl rfl rfl rfl) rfl
        apply drw_step (oper_p rfl rfl rfl (len_poly h1)) rfl
        apply drw_step (oper_p rfl rfl rfl (eql_f (by omega))) rfl
        apply drw_step (oper_p rfl rfl rfl rfl) rfl
        apply drw_step (oper_p rfl rfl rfl rfl) rfl
        apply drw_step (oper_p rfl rfl rfl rfl) rfl
        apply drw_step (oper_p rfl rfl rfl (len_poly h0)) rfl
        apply drw_step (oper_p rfl rfl rfl (lss_t hlt)) rfl
        apply drw_step (oper_p rfl rfl rfl rfl) rfl
        apply drw_step (oper_p rfl rfl rfl rfl) rfl
        apply drw_step (oper_p rfl rfl rfl rfl) rfl
        apply drw_step (oper_p rfl rfl rfl (idx_poly h0 hi hc)) rfl
        apply drw_step (oper_p rfl rfl rfl (fld_ref (by omega))) rfl
        apply drw_step (oper_p rfl rfl rfl (load_agg (by simp; omega))) rfl
        apply drw_step (oper_p rfl rfl rfl rfl) rfl
        apply drw_step (oper_p rfl rfl rfl rfl) rfl
        apply drw_step (oper_p rfl rfl rfl (idx_poly h1 hk hd)) rfl
        apply drw_step (oper_p rfl rfl rfl (fld_ref (by omega))) rfl
        apply drw_step (oper_p rfl rfl rfl (load_agg (by simp; omega))) rfl
        apply drw_step (oper_p rfl rfl (hpc hM.cmp) (call_agg2 hM.cmp hz)) hM.cmp
        apply drw_step (oper_p rfl rfl rfl rfl) rfl
        apply drw_step (oper_p rfl rfl rfl rfl) rfl
        apply drw_step (oper_p rfl rfl rfl rfl) rfl
        exact drw_nil
      · refine feet_ok ?_; repeat' (first | exact trivial | rfl | constructor)
    · apply keep_step (T' := [(0, .one (.p L0)), (1, .one (.p L1)), (5, .one (.own 0 (v) 0 (n))), (6, .one (.p (.int .i64 (.ofNat (i))))), (7, .one (.p (.int .i64 (.ofNat (k))))), (43, .one (.p (.bool true)))]) rfl; apply cond_t rfl
      apply seq_region
      · apply ops_step (oper_p rfl rfl rfl rfl)
        apply ops_step (oper_p rfl rfl rfl rfl)
        apply ops_step (oper_p rfl rfl rfl rfl)
        apply ops_step (oper_p rfl rfl rfl (idx_poly h0 hi hc))
        apply ops_step (oper_p rfl rfl rfl (load_agg (by omega)))
        apply ops_step (oper_yes rfl rfl rfl (bs1 (by simp [hc])))
        apply ops_step (oper_yes rfl rfl rfl (app1 (by simp [hc]) hn (by simp [lim]; omega) (by omega)))
        apply ops_step (oper_p rfl rfl rfl rfl)
        rfl
      · apply keep_step (T' := [(0, .one (.p L0)), (1, .one (.p L1)), (5, .one (.own 0 (v + 1) 0 (n + 1))), (6, .one (.p (.int .i64 (.ofNat (i))))), (7, .one (.p (.int .i64 (.ofNat (k)))))]) rfl; apply seq_region
        · apply ops_step (oper_p rfl rfl rfl rfl)
          apply ops_step (oper_p rfl rfl rfl (add_n (y := 1) (by omega)))
          apply ops_step (oper_p rfl rfl rfl rfl)
          rfl
        · rfl
  · constructor
    · rfl
    · try simp only [htk]
      rfl

set_option maxRecDepth 100000 in
set_option maxHeartbeats 1000000 in
theorem add_right_end (hM : AddM E) (h0 : PolyL L0 es) (h1 : PolyL L1 fs) (hk : fs[k]? = some d) (hd : d.length = 12) (hi : i = es.length) (hn : ch.length = n) (hb : n < 1000) (_hib : i < 1000) (hkb : k < 1000) {s : St} (hs : AtA L0 L1 v n i k ch G s) :
    ∃ s', evCode E K 0 bAdd s = some (.normal, s') ∧ AtA L0 L1 (v + 1) (n + 1) i (k + 1) (ch ++ [d.map .p]) (G ++ [tblk d]) s' := by
  have hltk : k < fs.length := (List.getElem?_eq_some_iff.1 hk).1
  have htk : d.take 12 = d := List.take_of_length_le (by omega)
  obtain ⟨sT, sH⟩ := s
  obtain ⟨hT, hH⟩ := hs
  simp only at hT hH
  subst hH
  unfold bAdd
  dsimp only [x8, loopD, loopOf]
  apply exN
  apply keep_step hT
  apply seq_normal
  · apply seq_region
    · apply ops_step (oper_p rfl rfl rfl rfl)
      apply ops_step (oper_p rfl rfl rfl rfl)
      apply ops_step (oper_p rfl rfl rfl (len_poly h0))
      apply ops_step (oper_p rfl rfl rfl (lss_f (by omega)))
      apply ops_step (oper_p rfl rfl rfl rfl)
      apply ops_step (oper_p rfl rfl rfl rfl)
      apply ops_step (oper_p rfl rfl rfl rfl)
      apply ops_step (oper_p rfl rfl rfl (len_poly h1))
      apply ops_step (oper_p rfl rfl rfl (lss_t hltk))
      apply ops_step (oper_p rfl rfl rfl rfl)
      rfl
    · apply keep_step (T' := [(0, .one (.p L0)), (1, .one (.p L1)), (5, .one (.own 0 (v) 0 (n))), (6, .one (.p (.int .i64 (.ofNat (i))))), (7, .one (.p (.int .i64 (.ofNat (k))))), (19, .one (.p (.bool true)))]) rfl; apply cond_t rfl; rfl
  · apply keep_step (T' := [(0, .one (.p L0)), (1, .one (.p L1)), (5, .one (.own 0 (v) 0 (n))), (6, .one (.p (.int .i64 (.ofNat (i))))), (7, .one (.p (.int .i64 (.ofNat (k)))))]) rfl; apply block_exit (j := 1)
    apply seq_normal
    · apply seq_draw
      · apply draw_of
        · apply drw_step (oper_p rfl rfl rfl rfl) rfl
          apply drw_step (oper_p rfl rfl rfl rfl) rfl
          apply drw_step (oper_p rfl rfl rfl (len_poly h1)) rfl
          apply drw_step (oper_p rfl rfl rfl (eql_f (by omega))) rfl
          apply drw_step (oper_p rfl rfl rfl rfl) rfl
          apply drw_step (oper_p rfl rfl rfl rfl) rfl
          apply drw_step (oper_p rfl rfl rfl rfl) rfl
          apply drw_step (oper_p rfl rfl rfl (len_poly h0)) rfl
          apply drw_step (oper_p rfl rfl rfl (lss_f (by omega))) rfl
          apply drw_step (oper_p rfl rfl rfl rfl) rfl
          repeat (first | apply drw_step (oper_no rfl) rfl | apply drw_step (oper_no rfl) hM.cmp)
          apply drw_step (oper_p rfl rfl rfl rfl) rfl
          apply drw_step (oper_p rfl rfl rfl rfl) rfl
          exact drw_nil
        · refine feet_ok ?_; repeat' (first | exact trivial | rfl | constructor)
      · apply keep_step (T' := [(0, .one (.p L0)), (1, .one (.p L1)), (5, .one (.own 0 (v) 0 (n))), (6, .one (.p (.int .i64 (.ofNat (i))))), (7, .one (.p (.int .i64 (.ofNat (k))))), (43, .one (.p (.bool false)))]) rfl; apply cond_f rfl; rfl
    · apply keep_step (T' := [(0, .one (.p L0)), (1, .one (.p L1)), (5, .one (.own 0 (v) 0 (n))), (6, .one (.p (.int .i64 (.ofNat (i))))), (7, .one (.p (.int .i64 (.ofNat (k)))))]) rfl
      apply seq_exit
      apply seq_draw
      · apply draw_of
        · apply drw_step (oper_p rfl rfl rfl rfl) rfl
          apply drw_step (oper_p rfl rfl rfl rfl) rfl
          apply drw_step (oper_p rfl rfl rfl (len_poly h0)) rfl
          apply drw_step (oper_p rfl rfl rfl (eql_t (by omega))) rfl
          apply drw_step (oper_p rfl rfl rfl rfl) rfl
          repeat (first | apply drw_step (oper_no rfl) rfl | apply drw_step (oper_no rfl) hM.cmp)
          apply drw_step (oper_p rfl rfl rfl rfl) rfl
          exact drw_nil
        · refine feet_ok ?_; repeat' (first | exact trivial | rfl | constructor)
      · apply keep_step (T' := [(0, .one (.p L0)), (1, .one (.p L1)), (5, .one (.own 0 (v) 0 (n))), (6, .one (.p (.int .i64 (.ofNat (i))))), (7, .one (.p (.int .i64 (.ofNat (k))))), (70, .one (.p (.bool true)))]) rfl; apply cond_t rfl
        apply seq_region
        · apply ops_step (oper_p rfl rfl rfl rfl)
          apply ops_step (oper_p rfl rfl rfl rfl)
          apply ops_step (oper_p rfl rfl rfl rfl)
          apply ops_step (oper_p rfl rfl rfl (idx_poly h1 hk hd))
          apply ops_step (oper_p rfl rfl rfl (load_agg (by omega)))
          apply ops_step (oper_yes rfl rfl rfl (bs1 (by simp [hd])))
          apply ops_step (oper_yes rfl rfl rfl (app1 (by simp [hd]) hn (by simp [lim]; omega) (by omega)))
          apply ops_step (oper_p rfl rfl rfl rfl)
          rfl
        · apply keep_step (T' := [(0, .one (.p L0)), (1, .one (.p L1)), (5, .one (.own 0 (v + 1) 0 (n + 1))), (6, .one (.p (.int .i64 (.ofNat (i))))), (7, .one (.p (.int .i64 (.ofNat (k)))))]) rfl; apply seq_region
          · apply ops_step (oper_p rfl rfl rfl rfl)
            apply ops_step (oper_p rfl rfl rfl (add_n (y := 1) (by omega)))
            apply ops_step (oper_p rfl rfl rfl rfl)
            rfl
          · rfl
  · constructor
    · rfl
    · try simp only [htk]
      rfl

set_option maxRecDepth 100000 in
set_option maxHeartbeats 1000000 in
theorem add_right_cmp (hM : AddM E) (h0 : PolyL L0 es) (h1 : PolyL L1 fs) (hi : es[i]? = some c) (hc : c.length = 12) (hk : fs[k]? = some d) (hd : d.length = 12) (hz : E.pure 24 [.agg ((c.drop 4).take 8), .agg ((d.drop 4).take 8)] = some (.one (.int .i64 (-1)))) (hn : ch.length = n) (hb : n < 1000) (_hib : i < 1000) (hkb : k < 1000) {s : St} (hs : AtA L0 L1 v n i k ch G s) :
    ∃ s', evCode E K 0 bAdd s = some (.normal, s') ∧ AtA L0 L1 (v + 1) (n + 1) i (k + 1) (ch ++ [d.map .p]) (G ++ [tblk d]) s' := by
  have hlt : i < es.length := (List.getElem?_eq_some_iff.1 hi).1
  have hltk : k < fs.length := (List.getElem?_eq_some_iff.1 hk).1
  have htk : d.take 12 = d := List.take_of_length_le (by omega)
  obtain ⟨sT, sH⟩ := s
  obtain ⟨hT, hH⟩ := hs
  simp only at hT hH
  subst hH
  unfold bAdd
  dsimp only [x8, loopD, loopOf]
  apply exN
  apply keep_step hT
  apply seq_normal
  · apply seq_region
    · apply ops_step (oper_p rfl rfl rfl rfl)
      apply ops_step (oper_p rfl rfl rfl rfl)
      apply ops_step (oper_p rfl rfl rfl (len_poly h0))
      apply ops_step (oper_p rfl rfl rfl (lss_t hlt))
      apply ops_step (oper_p rfl rfl rfl rfl)
      apply ops_step (oper_no rfl)
      apply ops_step (oper_no rfl)
      apply ops_step (oper_no rfl)
      apply ops_step (oper_no rfl)
      apply ops_step (oper_p rfl rfl rfl rfl)
      rfl
    · apply keep_step (T' := [(0, .one (.p L0)), (1, .one (.p L1)), (5, .one (.own 0 (v) 0 (n))), (6, .one (.p (.int .i64 (.ofNat (i))))), (7, .one (.p (.int .i64 (.ofNat (k))))), (19, .one (.p (.bool true)))]) rfl; apply cond_t rfl; rfl
  · apply keep_step (T' := [(0, .one (.p L0)), (1, .one (.p L1)), (5, .one (.own 0 (v) 0 (n))), (6, .one (.p (.int .i64 (.ofNat (i))))), (7, .one (.p (.int .i64 (.ofNat (k)))))]) rfl; apply block_exit (j := 1)
    apply seq_normal
    · apply seq_draw
      · apply draw_of
        · apply drw_step (oper_p rfl rfl rfl rfl) rfl
          apply drw_step (oper_p rfl rfl rfl rfl) rfl
          apply drw_step (oper_p rfl rfl rfl (len_poly h1)) rfl
          apply drw_step (oper_p rfl rfl rfl (eql_f (by omega))) rfl
          apply drw_step (oper_p rfl rfl rfl rfl) rfl
          apply drw_step (oper_p rfl rfl rfl rfl) rfl
          apply drw_step (oper_p rfl rfl rfl rfl) rfl
          apply drw_step (oper_p rfl rfl rfl (len_poly h0)) rfl
          apply drw_step (oper_p rfl rfl rfl (lss_t hlt)) rfl
          apply drw_step (oper_p rfl rfl rfl rfl) rfl
          apply drw_step (oper_p rfl rfl rfl rfl) rfl
          apply drw_step (oper_p rfl rfl rfl rfl) rfl
          apply drw_step (oper_p rfl rfl rfl (idx_poly h0 hi hc)) rfl
          apply drw_step (oper_p rfl rfl rfl (fld_ref (by omega))) rfl
          apply drw_step (oper_p rfl rfl rfl (load_agg (by simp; omega))) rfl
          apply drw_step (oper_p rfl rfl rfl rfl) rfl
          apply drw_step (oper_p rfl rfl rfl rfl) rfl
          apply drw_step (oper_p rfl rfl rfl (idx_poly h1 hk hd)) rfl
          apply drw_step (oper_p rfl rfl rfl (fld_ref (by omega))) rfl
          apply drw_step (oper_p rfl rfl rfl (load_agg (by simp; omega))) rfl
          apply drw_step (oper_p rfl rfl (hpc hM.cmp) (call_agg2 hM.cmp hz)) hM.cmp
          apply drw_step (oper_p rfl rfl rfl rfl) rfl
          apply drw_step (oper_p rfl rfl rfl rfl) rfl
          apply drw_step (oper_p rfl rfl rfl rfl) rfl
          exact drw_nil
        · refine feet_ok ?_; repeat' (first | exact trivial | rfl | constructor)
      · apply keep_step (T' := [(0, .one (.p L0)), (1, .one (.p L1)), (5, .one (.own 0 (v) 0 (n))), (6, .one (.p (.int .i64 (.ofNat (i))))), (7, .one (.p (.int .i64 (.ofNat (k))))), (43, .one (.p (.bool false)))]) rfl; apply cond_f rfl; rfl
    · apply keep_step (T' := [(0, .one (.p L0)), (1, .one (.p L1)), (5, .one (.own 0 (v) 0 (n))), (6, .one (.p (.int .i64 (.ofNat (i))))), (7, .one (.p (.int .i64 (.ofNat (k)))))]) rfl
      apply seq_exit
      apply seq_draw
      · apply draw_of
        · apply drw_step (oper_p rfl rfl rfl rfl) rfl
          apply drw_step (oper_p rfl rfl rfl rfl) rfl
          apply drw_step (oper_p rfl rfl rfl (len_poly h0)) rfl
          apply drw_step (oper_p rfl rfl rfl (eql_f (by omega))) rfl
          apply drw_step (oper_p rfl rfl rfl rfl) rfl
          apply drw_step (oper_p rfl rfl rfl rfl) rfl
          apply drw_step (oper_p rfl rfl rfl rfl) rfl
          apply drw_step (oper_p rfl rfl rfl (idx_poly h0 hi hc)) rfl
          apply drw_step (oper_p rfl rfl rfl (fld_ref (by omega))) rfl
          apply drw_step (oper_p rfl rfl rfl (load_agg (by simp; omega))) rfl
          apply drw_step (oper_p rfl rfl rfl rfl) rfl
          apply drw_step (oper_p rfl rfl rfl rfl) rfl
          apply drw_step (oper_p rfl rfl rfl (idx_poly h1 hk hd)) rfl
          apply drw_step (oper_p rfl rfl rfl (fld_ref (by omega))) rfl
          apply drw_step (oper_p rfl rfl rfl (load_agg (by simp; omega))) rfl
          apply drw_step (oper_p rfl rfl (hpc hM.cmp) (call_agg2 hM.cmp hz)) hM.cmp
          apply drw_step (oper_p rfl rfl rfl rfl) rfl
          apply drw_step (oper_p rfl rfl rfl rfl) rfl
          exact drw_nil
        · refine feet_ok ?_; repeat' (first | exact trivial | rfl | constructor)
      · apply keep_step (T' := [(0, .one (.p L0)), (1, .one (.p L1)), (5, .one (.own 0 (v) 0 (n))), (6, .one (.p (.int .i64 (.ofNat (i))))), (7, .one (.p (.int .i64 (.ofNat (k))))), (70, .one (.p (.bool true)))]) rfl; apply cond_t rfl
        apply seq_region
        · apply ops_step (oper_p rfl rfl rfl rfl)
          apply ops_step (oper_p rfl rfl rfl rfl)
          apply ops_step (oper_p rfl rfl rfl rfl)
          apply ops_step (oper_p rfl rfl rfl (idx_poly h1 hk hd))
          apply ops_step (oper_p rfl rfl rfl (load_agg (by omega)))
          apply ops_step (oper_yes rfl rfl rfl (bs1 (by simp [hd])))
          apply ops_step (oper_yes rfl rfl rfl (app1 (by simp [hd]) hn (by simp [lim]; omega) (by omega)))
          apply ops_step (oper_p rfl rfl rfl rfl)
          rfl
        · apply keep_step (T' := [(0, .one (.p L0)), (1, .one (.p L1)), (5, .one (.own 0 (v + 1) 0 (n + 1))), (6, .one (.p (.int .i64 (.ofNat (i))))), (7, .one (.p (.int .i64 (.ofNat (k)))))]) rfl; apply seq_region
          · apply ops_step (oper_p rfl rfl rfl rfl)
            apply ops_step (oper_p rfl rfl rfl (add_n (y := 1) (by omega)))
            apply ops_step (oper_p rfl rfl rfl rfl)
            rfl
          · rfl
  · constructor
    · rfl
    · try simp only [htk]
      rfl

set_option maxRecDepth 100000 in
set_option maxHeartbeats 1000000 in
theorem add_both (hM : AddM E) (h0 : PolyL L0 es) (h1 : PolyL L1 fs) (hi : es[i]? = some c) (hc : c.length = 12) (hk : fs[k]? = some d) (hd : d.length = 12) (hz : E.pure 24 [.agg ((c.drop 4).take 8), .agg ((d.drop 4).take 8)] = some (.one (.int .i64 0))) (hs4 : E.pure 25 [.agg (((c.drop 0)).take 4), .agg ((d.drop 0).take 4)] = some (.agg s4)) (hsl : s4.length = 4) (hsg : E.pure 26 [.agg s4] = some (.one (.int .i64 g))) (hg : g ≠ 0) (hn : ch.length = n) (hb : n < 1000) (hib : i < 1000) (hkb : k < 1000) {s : St} (hs : AtA L0 L1 v n i k ch G s) :
    ∃ s', evCode E K 0 bAdd s = some (.normal, s') ∧ AtA L0 L1 (v + 1) (n + 1) (i + 1) (k + 1) (ch ++ [(s4 ++ (c.drop 4).take 8).map .p]) (G ++ [sblk s4] ++ [tblk (s4 ++ (c.drop 4).take 8)]) s' := by
  have hlt : i < es.length := (List.getElem?_eq_some_iff.1 hi).1
  have hltk : k < fs.length := (List.getElem?_eq_some_iff.1 hk).1
  obtain ⟨sT, sH⟩ := s
  obtain ⟨hT, hH⟩ := hs
  simp only at hT hH
  subst hH
  unfold bAdd
  dsimp only [x8, loopD, loopOf]
  apply exN
  apply keep_step hT
  apply seq_normal
  · apply seq_region
    · apply ops_step (oper_p rfl rfl rfl rfl)
      apply ops_step (oper_p rfl rfl rfl rfl)
      apply ops_step (oper_p rfl rfl rfl (len_poly h0))
      apply ops_step (oper_p rfl rfl rfl (lss_t hlt))
      apply ops_step (oper_p rfl rfl rfl rfl)
      apply ops_step (oper_no rfl)
      apply ops_step (oper_no rfl)
      apply ops_step (oper_no rfl)
      apply ops_step (oper_no rfl)
      apply ops_step (oper_p rfl rfl rfl rfl)
      rfl
    · apply keep_step (T' := [(0, .one (.p L0)), (1, .one (.p L1)), (5, .one (.own 0 (v) 0 (n))), (6, .one (.p (.int .i64 (.ofNat (i))))), (7, .one (.p (.int .i64 (.ofNat (k))))), (19, .one (.p (.bool true)))]) rfl; apply cond_t rfl; rfl
  · apply keep_step (T' := [(0, .one (.p L0)), (1, .one (.p L1)), (5, .one (.own 0 (v) 0 (n))), (6, .one (.p (.int .i64 (.ofNat (i))))), (7, .one (.p (.int .i64 (.ofNat (k)))))]) rfl; apply block_normal
    apply seq_normal
    · apply seq_draw
      · apply draw_of
        · apply drw_step (oper_p rfl rfl rfl rfl) rfl
          apply drw_step (oper_p rfl rfl rfl rfl) rfl
          apply drw_step (oper_p rfl rfl rfl (len_poly h1)) rfl
          apply drw_step (oper_p rfl rfl rfl (eql_f (by omega))) rfl
          apply drw_step (oper_p rfl rfl rfl rfl) rfl
          apply drw_step (oper_p rfl rfl rfl rfl) rfl
          apply drw_step (oper_p rfl rfl rfl rfl) rfl
          apply drw_step (oper_p rfl rfl rfl (len_poly h0)) rfl
          apply drw_step (oper_p rfl rfl rfl (lss_t hlt)) rfl
          apply drw_step (oper_p rfl rfl rfl rfl) rfl
          apply drw_step (oper_p rfl rfl rfl rfl) rfl
          apply drw_step (oper_p rfl rfl rfl rfl) rfl
          apply drw_step (oper_p rfl rfl rfl (idx_poly h0 hi hc)) rfl
          apply drw_step (oper_p rfl rfl rfl (fld_ref (by omega))) rfl
          apply drw_step (oper_p rfl rfl rfl (load_agg (by simp; omega))) rfl
          apply drw_step (oper_p rfl rfl rfl rfl) rfl
          apply drw_step (oper_p rfl rfl rfl rfl) rfl
          apply drw_step (oper_p rfl rfl rfl (idx_poly h1 hk hd)) rfl
          apply drw_step (oper_p rfl rfl rfl (fld_ref (by omega))) rfl
          apply drw_step (oper_p rfl rfl rfl (load_agg (by simp; omega))) rfl
          apply drw_step (oper_p rfl rfl (hpc hM.cmp) (call_agg2 hM.cmp hz)) hM.cmp
          apply drw_step (oper_p rfl rfl rfl rfl) rfl
          apply drw_step (oper_p rfl rfl rfl rfl) rfl
          apply drw_step (oper_p rfl rfl rfl rfl) rfl
          exact drw_nil
        · refine feet_ok ?_; repeat' (first | exact trivial | rfl | constructor)
      · apply keep_step (T' := [(0, .one (.p L0)), (1, .one (.p L1)), (5, .one (.own 0 (v) 0 (n))), (6, .one (.p (.int .i64 (.ofNat (i))))), (7, .one (.p (.int .i64 (.ofNat (k))))), (43, .one (.p (.bool false)))]) rfl; apply cond_f rfl; rfl
    · apply keep_step (T' := [(0, .one (.p L0)), (1, .one (.p L1)), (5, .one (.own 0 (v) 0 (n))), (6, .one (.p (.int .i64 (.ofNat (i))))), (7, .one (.p (.int .i64 (.ofNat (k)))))]) rfl
      apply seq_normal
      · apply seq_draw
        · apply draw_of
          · apply drw_step (oper_p rfl rfl rfl rfl) rfl
            apply drw_step (oper_p rfl rfl rfl rfl) rfl
            apply drw_step (oper_p rfl rfl rfl (len_poly h0)) rfl
            apply drw_step (oper_p rfl rfl rfl (eql_f (by omega))) rfl
            apply drw_step (oper_p rfl rfl rfl rfl) rfl
            apply drw_step (oper_p rfl rfl rfl rfl) rfl
            apply drw_step (oper_p rfl rfl rfl rfl) rfl
            apply drw_step (oper_p rfl rfl rfl (idx_poly h0 hi hc)) rfl
            apply drw_step (oper_p rfl rfl rfl (fld_ref (by omega))) rfl
            apply drw_step (oper_p rfl rfl rfl (load_agg (by simp; omega))) rfl
            apply drw_step (oper_p rfl rfl rfl rfl) rfl
            apply drw_step (oper_p rfl rfl rfl rfl) rfl
            apply drw_step (oper_p rfl rfl rfl (idx_poly h1 hk hd)) rfl
            apply drw_step (oper_p rfl rfl rfl (fld_ref (by omega))) rfl
            apply drw_step (oper_p rfl rfl rfl (load_agg (by simp; omega))) rfl
            apply drw_step (oper_p rfl rfl (hpc hM.cmp) (call_agg2 hM.cmp hz)) hM.cmp
            apply drw_step (oper_p rfl rfl rfl rfl) rfl
            apply drw_step (oper_p rfl rfl rfl rfl) rfl
            exact drw_nil
          · refine feet_ok ?_; repeat' (first | exact trivial | rfl | constructor)
        · apply keep_step (T' := [(0, .one (.p L0)), (1, .one (.p L1)), (5, .one (.own 0 (v) 0 (n))), (6, .one (.p (.int .i64 (.ofNat (i))))), (7, .one (.p (.int .i64 (.ofNat (k))))), (70, .one (.p (.bool false)))]) rfl; apply cond_f rfl; rfl
      · apply keep_step (T' := [(0, .one (.p L0)), (1, .one (.p L1)), (5, .one (.own 0 (v) 0 (n))), (6, .one (.p (.int .i64 (.ofNat (i))))), (7, .one (.p (.int .i64 (.ofNat (k)))))]) rfl
        apply seq_draw
        · apply draw_of
          · apply drw_step (oper_p rfl rfl rfl rfl) rfl
            apply drw_step (oper_p rfl rfl rfl rfl) rfl
            apply drw_step (oper_p rfl rfl rfl (idx_poly h0 hi hc)) rfl
            apply drw_step (oper_p rfl rfl rfl (fld_ref (by omega))) rfl
            apply drw_step (oper_p rfl rfl rfl (load_agg (by simp; omega))) rfl
            apply drw_step (oper_p rfl rfl rfl rfl) rfl
            apply drw_step (oper_p rfl rfl rfl rfl) rfl
            apply drw_step (oper_p rfl rfl rfl (idx_poly h1 hk hd)) rfl
            apply drw_step (oper_p rfl rfl rfl (fld_ref (by omega))) rfl
            apply drw_step (oper_p rfl rfl rfl (load_agg (by simp; omega))) rfl
            apply drw_step (oper_p rfl rfl (hpc hM.add) (call_agg2 hM.add hs4)) hM.add
            apply drw_step (oper_yes rfl rfl rfl rfl) rfl
            apply drw_step (oper_yes rfl rfl rfl (store_rat (by simp [hsl]))) rfl
            exact drw_nil
          · simp [footsOk, footOk, applyWr, addAl]
        · apply stepH (set_end _ _ (sblk s4) _)
          apply keep_step (T' := [(0, .one (.p L0)), (1, .one (.p L1)), (5, .one (.own 0 (v) 0 (n))), (6, .one (.p (.int .i64 (.ofNat (i))))), (7, .one (.p (.int .i64 (.ofNat (k))))), (8, .one (.ptr (G.length + 1) 0 0 0))]) rfl
          apply seq_normal
          · apply seq_region
            · apply ops_step (oper_r rfl rfl rfl (load_end (by simp [hsl])))
              apply ops_step (oper_p rfl rfl (hpc hM.sgn) (call_agg1 hM.sgn hsg))
              apply ops_step (oper_p rfl rfl rfl (neq0_t hg))
              rfl
            · apply cond_t rfl
              apply just_draw
              apply draw_of
              · apply drw_step (oper_p rfl rfl rfl rfl) rfl
                apply drw_step (oper_r rfl rfl rfl (load_end (by simp [hsl]))) rfl
                apply drw_step (oper_p rfl rfl rfl rfl) rfl
                apply drw_step (oper_p rfl rfl rfl rfl) rfl
                apply drw_step (oper_p rfl rfl rfl (idx_poly h0 hi hc)) rfl
                apply drw_step (oper_p rfl rfl rfl (fld_ref (by omega))) rfl
                apply drw_step (oper_p rfl rfl rfl (load_agg (by simp; omega))) rfl
                apply drw_step (oper_p rfl rfl rfl (bld_term (by simp [hsl]) (by simp [hc]))) rfl
                apply drw_step (oper_yes rfl rfl rfl (bs1 (by simp [hsl, hc]))) rfl
                apply drw_step (oper_yes rfl rfl rfl (app1 (G := G ++ [sblk s4]) (by simp [hsl, hc]) hn (by simp [lim]; omega) (by omega))) rfl
                apply drw_step (oper_p rfl rfl rfl rfl) rfl
                exact drw_nil
              · simp [footsOk, footOk, applyWr, addAl]
                exact ⟨.inl (ble_f (by omega)), .inl (ble_f (by omega))⟩
          · apply keep_step (T' := [(0, .one (.p L0)), (1, .one (.p L1)), (5, .one (.own 0 (v + 1) 0 (n + 1))), (6, .one (.p (.int .i64 (.ofNat (i))))), (7, .one (.p (.int .i64 (.ofNat (k)))))]) rfl
            apply seq_region
            · apply ops_step (oper_p rfl rfl rfl rfl)
              apply ops_step (oper_p rfl rfl rfl (add_n (y := 1) (by omega)))
              apply ops_step (oper_p rfl rfl rfl rfl)
              rfl
            · apply just_region
              apply ops_step (oper_p rfl rfl rfl rfl)
              apply ops_step (oper_p rfl rfl rfl (add_n (y := 1) (by omega)))
              apply ops_step (oper_p rfl rfl rfl rfl)
              rfl
  · constructor
    · rfl
    · simp only [tblk, List.map_append]
      rfl

set_option maxRecDepth 100000 in
set_option maxHeartbeats 1000000 in
theorem add_cancel (hM : AddM E) (h0 : PolyL L0 es) (h1 : PolyL L1 fs) (hi : es[i]? = some c) (hc : c.length = 12) (hk : fs[k]? = some d) (hd : d.length = 12) (hz : E.pure 24 [.agg ((c.drop 4).take 8), .agg ((d.drop 4).take 8)] = some (.one (.int .i64 0))) (hs4 : E.pure 25 [.agg (((c.drop 0)).take 4), .agg ((d.drop 0).take 4)] = some (.agg s4)) (hsl : s4.length = 4) (hsg : E.pure 26 [.agg s4] = some (.one (.int .i64 0))) (_hn : ch.length = n) (_hb : n < 1000) (hib : i < 1000) (hkb : k < 1000) {s : St} (hs : AtA L0 L1 v n i k ch G s) :
    ∃ s', evCode E K 0 bAdd s = some (.normal, s') ∧ AtA L0 L1 v n (i + 1) (k + 1) ch (G ++ [sblk s4]) s' := by
  have hlt : i < es.length := (List.getElem?_eq_some_iff.1 hi).1
  have hltk : k < fs.length := (List.getElem?_eq_some_iff.1 hk).1
  obtain ⟨sT, sH⟩ := s
  obtain ⟨hT, hH⟩ := hs
  simp only at hT hH
  subst hH
  unfold bAdd
  dsimp only [x8, loopD, loopOf]
  apply exN
  apply keep_step hT
  apply seq_normal
  · apply seq_region
    · apply ops_step (oper_p rfl rfl rfl rfl)
      apply ops_step (oper_p rfl rfl rfl rfl)
      apply ops_step (oper_p rfl rfl rfl (len_poly h0))
      apply ops_step (oper_p rfl rfl rfl (lss_t hlt))
      apply ops_step (oper_p rfl rfl rfl rfl)
      apply ops_step (oper_no rfl)
      apply ops_step (oper_no rfl)
      apply ops_step (oper_no rfl)
      apply ops_step (oper_no rfl)
      apply ops_step (oper_p rfl rfl rfl rfl)
      rfl
    · apply keep_step (T' := [(0, .one (.p L0)), (1, .one (.p L1)), (5, .one (.own 0 (v) 0 (n))), (6, .one (.p (.int .i64 (.ofNat (i))))), (7, .one (.p (.int .i64 (.ofNat (k))))), (19, .one (.p (.bool true)))]) rfl; apply cond_t rfl; rfl
  · apply keep_step (T' := [(0, .one (.p L0)), (1, .one (.p L1)), (5, .one (.own 0 (v) 0 (n))), (6, .one (.p (.int .i64 (.ofNat (i))))), (7, .one (.p (.int .i64 (.ofNat (k)))))]) rfl; apply block_normal
    apply seq_normal
    · apply seq_draw
      · apply draw_of
        · apply drw_step (oper_p rfl rfl rfl rfl) rfl
          apply drw_step (oper_p rfl rfl rfl rfl) rfl
          apply drw_step (oper_p rfl rfl rfl (len_poly h1)) rfl
          apply drw_step (oper_p rfl rfl rfl (eql_f (by omega))) rfl
          apply drw_step (oper_p rfl rfl rfl rfl) rfl
          apply drw_step (oper_p rfl rfl rfl rfl) rfl
          apply drw_step (oper_p rfl rfl rfl rfl) rfl
          apply drw_step (oper_p rfl rfl rfl (len_poly h0)) rfl
          apply drw_step (oper_p rfl rfl rfl (lss_t hlt)) rfl
          apply drw_step (oper_p rfl rfl rfl rfl) rfl
          apply drw_step (oper_p rfl rfl rfl rfl) rfl
          apply drw_step (oper_p rfl rfl rfl rfl) rfl
          apply drw_step (oper_p rfl rfl rfl (idx_poly h0 hi hc)) rfl
          apply drw_step (oper_p rfl rfl rfl (fld_ref (by omega))) rfl
          apply drw_step (oper_p rfl rfl rfl (load_agg (by simp; omega))) rfl
          apply drw_step (oper_p rfl rfl rfl rfl) rfl
          apply drw_step (oper_p rfl rfl rfl rfl) rfl
          apply drw_step (oper_p rfl rfl rfl (idx_poly h1 hk hd)) rfl
          apply drw_step (oper_p rfl rfl rfl (fld_ref (by omega))) rfl
          apply drw_step (oper_p rfl rfl rfl (load_agg (by simp; omega))) rfl
          apply drw_step (oper_p rfl rfl (hpc hM.cmp) (call_agg2 hM.cmp hz)) hM.cmp
          apply drw_step (oper_p rfl rfl rfl rfl) rfl
          apply drw_step (oper_p rfl rfl rfl rfl) rfl
          apply drw_step (oper_p rfl rfl rfl rfl) rfl
          exact drw_nil
        · refine feet_ok ?_; repeat' (first | exact trivial | rfl | constructor)
      · apply keep_step (T' := [(0, .one (.p L0)), (1, .one (.p L1)), (5, .one (.own 0 (v) 0 (n))), (6, .one (.p (.int .i64 (.ofNat (i))))), (7, .one (.p (.int .i64 (.ofNat (k))))), (43, .one (.p (.bool false)))]) rfl; apply cond_f rfl; rfl
    · apply keep_step (T' := [(0, .one (.p L0)), (1, .one (.p L1)), (5, .one (.own 0 (v) 0 (n))), (6, .one (.p (.int .i64 (.ofNat (i))))), (7, .one (.p (.int .i64 (.ofNat (k)))))]) rfl
      apply seq_normal
      · apply seq_draw
        · apply draw_of
          · apply drw_step (oper_p rfl rfl rfl rfl) rfl
            apply drw_step (oper_p rfl rfl rfl rfl) rfl
            apply drw_step (oper_p rfl rfl rfl (len_poly h0)) rfl
            apply drw_step (oper_p rfl rfl rfl (eql_f (by omega))) rfl
            apply drw_step (oper_p rfl rfl rfl rfl) rfl
            apply drw_step (oper_p rfl rfl rfl rfl) rfl
            apply drw_step (oper_p rfl rfl rfl rfl) rfl
            apply drw_step (oper_p rfl rfl rfl (idx_poly h0 hi hc)) rfl
            apply drw_step (oper_p rfl rfl rfl (fld_ref (by omega))) rfl
            apply drw_step (oper_p rfl rfl rfl (load_agg (by simp; omega))) rfl
            apply drw_step (oper_p rfl rfl rfl rfl) rfl
            apply drw_step (oper_p rfl rfl rfl rfl) rfl
            apply drw_step (oper_p rfl rfl rfl (idx_poly h1 hk hd)) rfl
            apply drw_step (oper_p rfl rfl rfl (fld_ref (by omega))) rfl
            apply drw_step (oper_p rfl rfl rfl (load_agg (by simp; omega))) rfl
            apply drw_step (oper_p rfl rfl (hpc hM.cmp) (call_agg2 hM.cmp hz)) hM.cmp
            apply drw_step (oper_p rfl rfl rfl rfl) rfl
            apply drw_step (oper_p rfl rfl rfl rfl) rfl
            exact drw_nil
          · refine feet_ok ?_; repeat' (first | exact trivial | rfl | constructor)
        · apply keep_step (T' := [(0, .one (.p L0)), (1, .one (.p L1)), (5, .one (.own 0 (v) 0 (n))), (6, .one (.p (.int .i64 (.ofNat (i))))), (7, .one (.p (.int .i64 (.ofNat (k))))), (70, .one (.p (.bool false)))]) rfl; apply cond_f rfl; rfl
      · apply keep_step (T' := [(0, .one (.p L0)), (1, .one (.p L1)), (5, .one (.own 0 (v) 0 (n))), (6, .one (.p (.int .i64 (.ofNat (i))))), (7, .one (.p (.int .i64 (.ofNat (k)))))]) rfl
        apply seq_draw
        · apply draw_of
          · apply drw_step (oper_p rfl rfl rfl rfl) rfl
            apply drw_step (oper_p rfl rfl rfl rfl) rfl
            apply drw_step (oper_p rfl rfl rfl (idx_poly h0 hi hc)) rfl
            apply drw_step (oper_p rfl rfl rfl (fld_ref (by omega))) rfl
            apply drw_step (oper_p rfl rfl rfl (load_agg (by simp; omega))) rfl
            apply drw_step (oper_p rfl rfl rfl rfl) rfl
            apply drw_step (oper_p rfl rfl rfl rfl) rfl
            apply drw_step (oper_p rfl rfl rfl (idx_poly h1 hk hd)) rfl
            apply drw_step (oper_p rfl rfl rfl (fld_ref (by omega))) rfl
            apply drw_step (oper_p rfl rfl rfl (load_agg (by simp; omega))) rfl
            apply drw_step (oper_p rfl rfl (hpc hM.add) (call_agg2 hM.add hs4)) hM.add
            apply drw_step (oper_yes rfl rfl rfl rfl) rfl
            apply drw_step (oper_yes rfl rfl rfl (store_rat (by simp [hsl]))) rfl
            exact drw_nil
          · simp [footsOk, footOk, applyWr, addAl]
        · apply stepH (set_end _ _ (sblk s4) _)
          apply keep_step (T' := [(0, .one (.p L0)), (1, .one (.p L1)), (5, .one (.own 0 (v) 0 (n))), (6, .one (.p (.int .i64 (.ofNat (i))))), (7, .one (.p (.int .i64 (.ofNat (k))))), (8, .one (.ptr (G.length + 1) 0 0 0))]) rfl
          apply seq_normal
          · apply seq_region
            · apply ops_step (oper_r rfl rfl rfl (load_end (by simp [hsl])))
              apply ops_step (oper_p rfl rfl (hpc hM.sgn) (call_agg1 hM.sgn hsg))
              apply ops_step (oper_p rfl rfl rfl rfl)
              rfl
            · apply cond_f rfl; rfl
          · apply keep_step (T' := [(0, .one (.p L0)), (1, .one (.p L1)), (5, .one (.own 0 (v) 0 (n))), (6, .one (.p (.int .i64 (.ofNat (i))))), (7, .one (.p (.int .i64 (.ofNat (k)))))]) rfl
            apply seq_region
            · apply ops_step (oper_p rfl rfl rfl rfl)
              apply ops_step (oper_p rfl rfl rfl (add_n (y := 1) (by omega)))
              apply ops_step (oper_p rfl rfl rfl rfl)
              rfl
            · apply just_region
              apply ops_step (oper_p rfl rfl rfl rfl)
              apply ops_step (oper_p rfl rfl rfl (add_n (y := 1) (by omega)))
              apply ops_step (oper_p rfl rfl rfl rfl)
              rfl
  · constructor
    · rfl
    · try simp only [htk]
      rfl

end
end Go.Proofs.YthmlggklnfmidaaGreat
