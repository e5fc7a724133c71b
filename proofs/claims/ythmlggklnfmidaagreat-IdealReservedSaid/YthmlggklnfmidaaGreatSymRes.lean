/- The reserved variable: what Add, Uses and reserved answer about it, on symbolic polynomials. -/
import Derived.Test.YthmlggklnfmidaaGreatSymPoly
import Derived.Test.YthmlggklnfmidaaGreatTabs7
namespace Go.Proofs.YthmlggklnfmidaaGreat
open Go.Ev

/-- A small term, or the variable 7. -/
def T7 (c : List PL) : Prop := GoodT 15 c ∨ c = term7

theorem cmp7_ev {m : Nat × Nat × Nat} (hm : m.1 + m.2.1 + m.2.2 ≤ 4) : (EV 20).pure 24 [.agg ints7, .agg (intsOf m)] = some (.one (.int .i64 (cmp7 m))) ∧ (EV 20).pure 24 [.agg (intsOf m), .agg ints7] = some (.one (.int .i64 (-cmp7 m))) := by
  have h := allM_spec tab7_ok m hm
  simp only [Bool.and_eq_true] at h
  exact ⟨chk_spec h.1, chk_spec h.2⟩

theorem cmp7_2 (m : Nat × Nat × Nat) : cmp7 m = 1 ∨ cmp7 m = -1 := by
  unfold cmp7
  cases Nat.beq (m.1 + m.2.1 + m.2.2) 0 with
  | true => exact .inl rfl
  | false => exact .inr rfl

theorem add_nilL : ∀ {es : List (List PL)} {b : Nat}, (∀ c ∈ es, GoodT b c) → AddR (EV 20) [] es es
  | [], _, _ => .nil
  | c :: es, b, h => by
    obtain ⟨z, m, rfl, -, -, -⟩ := h c (List.mem_cons_self ..)
    exact .rightE (term_len z m) (add_nilL fun q hq => h q (List.mem_cons_of_mem _ hq))

theorem t7_ints : (term7.drop 4).take 8 = ints7 := rfl

theorem addL7 : ∀ {es : List (List PL)}, (∀ c ∈ es, GoodT 15 c) → ∃ out, AddR (EV 20) [term7] es out ∧ out.length ≤ es.length + 1 ∧ (∀ c ∈ out, T7 c) ∧ term7 ∈ out
  | [], _ => ⟨[term7], .leftE rfl .nil, by simp, fun c hc => .inr (List.mem_singleton.1 hc), by simp⟩
  | c :: es, h => by
    have hc := h c (List.mem_cons_self ..)
    obtain ⟨z, m, rfl, h2, h3, h4⟩ := hc
    have hcm := (cmp7_ev h4).1
    rcases cmp7_2 m with e | e
    · refine ⟨term7 :: termOf z m :: es, .leftC rfl (term_len z m) (by rw [t7_ints, term_ints, hcm, e]) (add_nilL h), by simp, fun q hq => ?_, by simp⟩
      rcases List.mem_cons.1 hq with rfl | hq
      · exact .inr rfl
      · exact .inl (h q hq)
    · obtain ⟨out, g1, g2, g3, g4⟩ := addL7 fun q hq => h q (List.mem_cons_of_mem _ hq)
      refine ⟨termOf z m :: out, .rightC rfl (term_len z m) (by rw [t7_ints, term_ints, hcm, e]) g1, by simp; omega, fun q hq => ?_, List.mem_cons_of_mem _ g4⟩
      rcases List.mem_cons.1 hq with rfl | hq
      · exact .inl ⟨z, m, rfl, h2, h3, h4⟩
      · exact g3 q hq

theorem addR7 : ∀ {es : List (List PL)}, (∀ c ∈ es, GoodT 15 c) → ∃ out, AddR (EV 20) es [term7] out ∧ out.length ≤ es.length + 1 ∧ (∀ c ∈ out, T7 c) ∧ term7 ∈ out
  | [], _ => ⟨[term7], .rightE rfl .nil, by simp, fun c hc => .inr (List.mem_singleton.1 hc), by simp⟩
  | c :: es, h => by
    have hc := h c (List.mem_cons_self ..)
    obtain ⟨z, m, rfl, h2, h3, h4⟩ := hc
    have hcm := (cmp7_ev h4).2
    rcases cmp7_2 m with e | e
    · refine ⟨term7 :: termOf z m :: es, .rightC (term_len z m) rfl (by rw [t7_ints, term_ints, hcm, e]) (add_nil h), by simp, fun q hq => ?_, by simp⟩
      rcases List.mem_cons.1 hq with rfl | hq
      · exact .inr rfl
      · exact .inl (h q hq)
    · obtain ⟨out, g1, g2, g3, g4⟩ := addR7 fun q hq => h q (List.mem_cons_of_mem _ hq)
      refine ⟨termOf z m :: out, .leftC (term_len z m) rfl (by rw [t7_ints, term_ints, hcm, e]; rfl) g1, by simp; omega, fun q hq => ?_, List.mem_cons_of_mem _ g4⟩
      rcases List.mem_cons.1 hq with rfl | hq
      · exact .inl ⟨z, m, rfl, h2, h3, h4⟩
      · exact g3 q hq

/-- A polynomial with the variable 7 and small terms. -/
def Has7 (out : List (List PL)) : Prop := out.length ≤ 6 ∧ (∀ c ∈ out, T7 c) ∧ term7 ∈ out

theorem sum7L {es : List (List PL)} (h : Good 5 es) : ∃ out, (EV 21).pure 8 [.one (.lst [term7]), .one (.lst es)] = some (.one (.lst out)) ∧ Has7 out := by
  obtain ⟨out, g1, g2, g3, g4⟩ := addL7 h.2
  have := h.1
  refine ⟨out, ?_, by omega, g3, g4⟩
  rw [EV_pure (n := 20) (xf := x8) rfl]
  exact add_ev ⟨EV_call rfl, EV_call rfl, EV_call rfl⟩ (.inl rfl) (.inl rfl) (by simp) (by omega) g1
theorem sum7R {es : List (List PL)} (h : Good 5 es) : ∃ out, (EV 21).pure 8 [.one (.lst es), .one (.lst [term7])] = some (.one (.lst out)) ∧ Has7 out := by
  obtain ⟨out, g1, g2, g3, g4⟩ := addR7 h.2
  have := h.1
  refine ⟨out, ?_, by omega, g3, g4⟩
  rw [EV_pure (n := 20) (xf := x8) rfl]
  exact add_ev ⟨EV_call rfl, EV_call rfl, EV_call rfl⟩ (.inl rfl) (.inl rfl) (by omega) (by simp) g1

theorem block_ret {E : Oracle} {K b j : Nat} {c : XCode} {s s1 : St} (h : evCode E K b c s = some (.ret, s1)) : evCode E K b (.block j c) s = some (.ret, s1) := by
  simp only [evCode, h]
theorem loop_ret {f : St → Option (Ex × St)} {N : Nat} {s s' : St} (h : f s = some (.ret, s')) : loopN f (N + 1) s = some (.ret, s') := by
  simp only [loopN, h]

theorem exE {E : Oracle} {K b : Nat} {x : Ex} {c : XCode} {s s' : St} {P : St → Prop} (h : evCode E K b c s = some (x, s')) (k : P s') : ∃ s', evCode E K b c s = some (x, s') ∧ P s' := ⟨s', h, k⟩
theorem exE0 {E : Oracle} {K b : Nat} {x : Ex} {c : XCode} {s s' : St} (h : evCode E K b c s = some (x, s')) : ∃ s', evCode E K b c s = some (x, s') := ⟨s', h⟩

/-! ## Uses -/

def bUses : XCode := loopD x58.body
def u8 (u : Nat) : DV := .one (.p (.int .u8 (.ofNat u)))

structure AtU (es : List (List PL)) (u k : Nat) (s : St) : Prop where
  T : keepT s.T [3, 6, 7, 8] = [(3, u8 u), (6, .one (.p (.lst es))), (7, nI es.length), (8, nI k)]

theorem get_last (G : List Blk) (y : Blk) : HFof (G ++ [y]) G.length = some y := by simp [HFof]
theorem set_last (y y' : Blk) (G : List Blk) : (G ++ [y]).set G.length y' = G ++ [y'] := by simp

section
variable {E : Oracle} {b n : Nat} {G : List Blk}
theorem store_last {cs z : List DL} {sz m : Nat} (hz : z.length = sz) (hc : cs.length = sz) :
    evOp E 0 (.store sz) [.one (.ptr G.length 0 0 0), .agg cs] (HFof (G ++ [⟨false, 0, sz, [z], false, m⟩])) n = some ⟨.tup [], [], [(G.length, ⟨false, 0, sz, [cs], false, m⟩)], [G.length]⟩ := by
  have e1 : Nat.ble 0 G.length = true := ble_t (Nat.zero_le _)
  simp only [evOp, opStore, get_last, DV.cells, storeIn, Nat.beq_refl, Bool.not_false, Bool.and_self, beq_t hc, e1, Bool.true_or, cond_true, List.getElem?_cons_zero, Nat.zero_add, ble_t (Nat.le_of_eq hz.symm), List.take_zero, List.nil_append, List.drop_eq_nil_of_le (Nat.le_of_eq hz), List.append_nil, List.set_cons_zero]
theorem store_term {cs : List DL} (hc : cs.length = 12) :
    evOp E 0 (.store 12) [.one (.ptr G.length 0 0 0), .agg cs] (HFof (G ++ [⟨false, 0, 12, [zTerm.map .p], false, 63⟩])) n = some ⟨.tup [], [], [(G.length, ⟨false, 0, 12, [cs], false, 63⟩)], [G.length]⟩ := store_last rfl hc
theorem load_last {cs : List DL} {off sz t m : Nat} (hc : off + sz ≤ cs.length) :
    evOp E b (.load true sz) [.one (.ptr G.length 0 0 off)] (HFof (G ++ [⟨false, 0, t, [cs], false, m⟩])) n = some ⟨.agg ((cs.drop off).take sz), [], [], [G.length]⟩ := by
  have e1 : off ≤ cs.length := by omega
  have e2 : sz ≤ (cs.drop off).length := by simp; omega
  simp only [evOp, opLoad, chunkAt, get_last, Nat.beq_refl, Bool.not_false, Bool.and_self, cond_true, List.getElem?_cons_zero, ble_t e1, headV, ble_t e2]
theorem load_lastP {cs : List PL} {off sz t m : Nat} (hc : off + sz ≤ cs.length) :
    evOp E b (.load true sz) [.one (.ptr G.length 0 0 off)] (HFof (G ++ [⟨false, 0, t, [cs.map .p], false, m⟩])) n = some ⟨.agg (((cs.drop off).take sz).map .p), [], [], [G.length]⟩ := by
  rw [load_last (by simpa using hc), List.map_take, List.map_drop]
theorem load_all {c : List PL} {sz : Nat} {h : HF} (hc : c.length = sz) : evOp E b (.load true sz) [.one (.p (.ref c))] h n = some (.pure (.agg (c.map .p))) := by
  rw [load_agg (by omega), List.take_of_length_le (by omega)]
theorem or_u8 {u v : Nat} {h : HF} (hu : u < 256) (hv : v < 256) : evOp E b (.bin .or) [u8 u, u8 v] h n = some ⟨u8 (u ||| v), [], [], []⟩ := by
  have h1 : u % 256 = u := Nat.mod_eq_of_lt hu
  have h2 : v % 256 = v := Nat.mod_eq_of_lt hv
  simp only [u8, evOp, opBin, evBinI, sameK, keq, kidx, dInt, resF, kmod, h1, h2, signF, ksigned]; rfl
end

theorem or_256 {u v : Nat} (hu : u < 256) (hv : v < 256) : u ||| v < 256 := Nat.or_lt_two_pow (n := 8) hu hv
theorem or_128 {u v : Nat} : 128 ≤ u ||| v ↔ 128 ≤ u ∨ 128 ≤ v := by
  constructor
  · intro h
    rcases Nat.lt_or_ge u 128 with h1 | h1
    · rcases Nat.lt_or_ge v 128 with h2 | h2
      · have := Nat.or_lt_two_pow (n := 7) h1 h2
        omega
      · exact .inr h2
    · exact .inl h1
  · rintro (h | h)
    · exact Nat.le_trans h Nat.left_le_or
    · exact Nat.le_trans h Nat.right_le_or

set_option maxRecDepth 100000 in
set_option maxHeartbeats 1000000 in
theorem uses_round {E : Oracle} {es : List (List PL)} {u k v : Nat} {c : List PL} (hM : isHeapCall E (.call 100) = false) (hi : es[k]? = some c) (hc : c.length = 12) (hv : E.pure 100 [.agg ((c.drop 4).take 8)] = some (.one (.int .u8 (.ofNat v)))) (hu : u < 256) (hv2 : v < 256) (hk : k < 1000)
    {s : St} (hs : AtU es u k s) : ∃ s', evCode E 1000 0 bUses s = some (.normal, s') ∧ AtU es (u ||| v) (k + 1) s' := by
  have hlt : k < es.length := (List.getElem?_eq_some_iff.1 hi).1
  obtain ⟨T, H⟩ := s
  obtain ⟨hT⟩ := hs
  simp only at hT
  unfold bUses
  dsimp only [x58, loopD, loopOf]
  apply exN
  apply keep_step hT
  apply seq_region
  · apply ops_step (oper_p rfl rfl rfl (lss_t hlt)); rfl
  apply seq_normal
  · apply cond_t rfl; rfl
  apply seq_normal
  · apply block_normal
    apply seq_region
    · apply ops_step (oper_p rfl rfl rfl (idx_lst hi hc))
      apply ops_step (oper_p rfl rfl rfl (load_all hc))
      apply ops_step (oper_yes rfl rfl rfl rfl)
      apply ops_step (oper_yes rfl rfl rfl (store_term (by simp [hc])))
      apply opsH (set_last _ _ _)
      rfl
    apply just_region
    apply ops_step (oper_p rfl rfl rfl rfl)
    apply ops_step (oper_p rfl rfl rfl rfl)
    apply ops_step (oper_r rfl rfl rfl (load_lastP (by omega)))
    apply ops_step (oper_p rfl rfl (hpc hM) (call_agg1 (x := (c.drop 4).take 8) hM hv))
    apply ops_step (oper_p rfl rfl rfl (or_u8 hu hv2))
    apply ops_step (oper_p rfl rfl rfl rfl)
    rfl
  · apply just_region
    apply ops_step (oper_p rfl rfl rfl (add_n (y := 1) (by omega)))
    apply ops_step (oper_p rfl rfl rfl rfl)
    rfl
  · exact ⟨rfl⟩

set_option maxRecDepth 100000 in
theorem uses_stop {E : Oracle} {es : List (List PL)} {u k : Nat} (hk : k = es.length) {s : St} (hs : AtU es u k s) : ∃ s', evCode E 1000 0 bUses s = some (.exit 0, s') ∧ getT s'.T 3 = some (u8 u) := by
  obtain ⟨T, H⟩ := s
  obtain ⟨hT⟩ := hs
  simp only at hT
  unfold bUses
  dsimp only [x58, loopD, loopOf]
  refine ⟨⟨[(9, .one (.p (.bool false))), (3, u8 u), (6, .one (.p (.lst es))), (7, nI es.length), (8, nI k)], H⟩, ?_, rfl⟩
  apply keep_step hT
  apply seq_region
  · apply ops_step (oper_p rfl rfl rfl (lss_f (by omega))); rfl
  apply seq_exit
  apply cond_f rfl; rfl

/-- What Support answers about a term, by its bit 7. -/
def SupT (E : Oracle) (c : List PL) (is : Prop) : Prop := c.length = 12 ∧ ∃ v, E.pure 100 [.agg ((c.drop 4).take 8)] = some (.one (.int .u8 (.ofNat v))) ∧ v < 256 ∧ (128 ≤ v ↔ is)

theorem uses_loop {E : Oracle} {es : List (List PL)} (hM : isHeapCall E (.call 100) = false) (hes : ∀ c ∈ es, SupT E c (c = term7)) (hl : es.length < 500) : ∀ (N u k : Nat) (s : St), es.length < N + k → k ≤ es.length → u < 256 → AtU es u k s →
    ∃ s' u', loopN (fun s => evCode E 1000 0 bUses s) N s = some (.exit 0, s') ∧ getT s'.T 3 = some (u8 u') ∧ u' < 256 ∧ (128 ≤ u' ↔ 128 ≤ u ∨ term7 ∈ es.drop k)
  | 0, u, k, s, hN, hk, _, _ => by omega
  | N + 1, u, k, s, hN, hk, hu, hs => by
    rcases Nat.lt_or_ge k es.length with h | h
    · obtain ⟨hc, v, h1, h2, h3⟩ := hes _ (List.getElem_mem h)
      obtain ⟨s1, g1, g2⟩ := uses_round hM (List.getElem?_eq_getElem h) hc h1 hu h2 (by omega) hs
      obtain ⟨s', u', k1, k2, k3, k4⟩ := uses_loop hM hes hl N (u ||| v) (k + 1) s1 (by omega) (by omega) (or_256 hu h2) g2
      refine ⟨s', u', by rw [loop_next g1]; exact k1, k2, k3, ?_⟩
      rw [k4, or_128, h3, List.drop_eq_getElem_cons h, List.mem_cons]
      constructor
      · rintro ((a | a) | a)
        · exact .inl a
        · exact .inr (.inl a.symm)
        · exact .inr (.inr a)
      · rintro (a | a | a)
        · exact .inl (.inl a)
        · exact .inl (.inr a.symm)
        · exact .inr a
    · obtain ⟨s', g1, g2⟩ := uses_stop (E := E) (by omega) hs
      refine ⟨s', u, loop_exit g1, g2, hu, ?_⟩
      rw [List.drop_eq_nil_of_le (by omega)]
      simp

set_option maxRecDepth 100000 in
theorem uses_ev {E : Oracle} {es : List (List PL)} (hM : isHeapCall E (.call 100) = false) (hes : ∀ c ∈ es, SupT E c (c = term7)) (hl : es.length < 500) : ∃ u, evPureF E 1000 x58 [.one (.lst es)] = some (.one (.int .u8 (.ofNat u))) ∧ u < 256 ∧ (128 ≤ u ↔ term7 ∈ es) := by
  have hx : x58.body = .seq (.region false [⟨(some 2), .move, [(.c (.one (.int .u8 0)))], none, []⟩]) (.seq (.region false [⟨(some 3), .move, [(.c (.one (.int .u8 0)))], none, []⟩]) (.seq (.seq (.region false [⟨(some 6), .move, [(.t 0)], none, []⟩, ⟨(some 7), .len, [(.t 6)], none, [0]⟩, ⟨(some 8), .move, [(.c (.one (.int .i64 0)))], none, []⟩]) (.block 0 (.loop bUses))) (.keep [3] (.seq (.region false [⟨(some 18), .move, [(.t 3)], none, []⟩, ⟨(some 2), .move, [(.t 18)], none, [0, 0]⟩]) .ret)))) := rfl
  obtain ⟨⟨T1, H1⟩, u, g1, g2, g3, g4⟩ := uses_loop hM hes hl 1000 0 0 ⟨[(8, nI 0), (7, nI es.length), (6, .one (.p (.lst es))), (3, u8 0), (2, u8 0), (0, .one (.p (.lst es)))], []⟩ (by omega) (by omega) (by omega) ⟨rfl⟩
  simp only at g2
  refine ⟨u, ?_, g3, by rw [g4]; simp⟩
  have hb : evBody E 1000 x58 ([.one (.lst es)].map inj) [] = some ([u8 u], ⟨[(2, u8 u), (18, u8 u), (3, u8 u)], H1⟩) := by
    refine body_ret rfl ?_ rfl
    rw [hx]
    apply seq_region
    · apply ops_step (oper_p rfl rfl rfl rfl); rfl
    apply seq_region
    · apply ops_step (oper_p rfl rfl rfl rfl); rfl
    apply seq_normal
    · apply seq_region
      · apply ops_step (oper_p rfl rfl rfl rfl)
        apply ops_step (oper_p rfl rfl rfl rfl)
        apply ops_step (oper_p rfl rfl rfl rfl); rfl
      · exact block_exit (j := 0) g1
    · have hk : keepT T1 [3] = [(3, u8 u)] := by simp only [keepT, g2]
      apply keep_step hk
      apply seq_region
      · apply ops_step (oper_p rfl rfl rfl rfl)
        apply ops_step (oper_p rfl rfl rfl rfl); rfl
      · rfl
  exact pureF_of (ps := [.one (.int .u8 (.ofNat u))]) hb rfl

theorem ints_ne7 (z : Int) (m : Nat × Nat × Nat) : termOf z m ≠ term7 := by
  intro h
  have := congrArg (fun l => (l.drop 4).take 8) h
  simp only [term_ints, t7_ints] at this
  simp [intsOf, ints7] at this

theorem sup_lt (m : Nat × Nat × Nat) : sup m < 128 := by
  unfold sup
  cases Nat.beq m.1 0 <;> cases Nat.beq m.2.1 0 <;> cases Nat.beq m.2.2 0 <;> decide

theorem supT {c : List PL} (h : T7 c) : SupT (EV 20) c (c = term7) := by
  rcases h with ⟨z, m, rfl, -, -, h4⟩ | rfl
  · refine ⟨term_len z m, sup m, ?_, Nat.lt_trans (sup_lt m) (by decide), ?_⟩
    · rw [term_ints]; exact chk_spec (allM_spec tabSup_ok m h4)
    · have := sup_lt m
      exact ⟨fun h => by omega, fun h => absurd h (ints_ne7 z m)⟩
  · exact ⟨rfl, 128, sup7_ev, by decide, by simp⟩

theorem uses_21 {es : List (List PL)} (h : ∀ c ∈ es, T7 c) (hl : es.length < 500) : ∃ u, (EV 21).pure 58 [.one (.lst es)] = some (.one (.int .u8 (.ofNat u))) ∧ u < 256 ∧ (128 ≤ u ↔ term7 ∈ es) := by
  rw [EV_pure (n := 20) (xf := x58) rfl]
  exact uses_ev (EV_call rfl) (fun c hc => supT (h c hc)) hl

/-! ## reserved -/

theorem shr7 {E : Oracle} {b n u q : Nat} {h : HF} (hq : u / 128 = q) : evOp E b (.bin .shr) [u8 u, .one (.p (.int .u64 7))] h n = some ⟨u8 q, [], [], []⟩ := by
  subst hq; rfl

set_option maxRecDepth 100000 in
theorem res1_ev {es : List (List PL)} (h : ∀ c ∈ es, T7 c) (hl : es.length < 500) : ∃ r, (EV 22).pure 57 [.one (.lst es)] = some (.one (.bool r)) ∧ (r = true ↔ term7 ∈ es) := by
  obtain ⟨u, g1, g2, g3⟩ := uses_21 h hl
  have key : ∀ (q : Nat) (r : Bool), u / 128 = q → (∀ (h : HF) (n : Nat), evOp (EV 21) 0 (.bin .and) [u8 q, .one (.p (.int .u8 1))] h n = some ⟨u8 q, [], [], []⟩) → (∀ (h : HF) (n : Nat), evOp (EV 21) 0 (.bin .eql) [u8 q, .one (.p (.int .u8 1))] h n = some ⟨.one (.p (.bool r)), [], [], []⟩) → (EV 22).pure 57 [.one (.lst es)] = some (.one (.bool r)) := by
    intro q r hq ha he
    rw [EV_pure (n := 21) (xf := x57) rfl]
    have hb : ∃ s, evBody (EV 21) 1000 x57 ([.one (.lst es)].map inj) [] = some ([.one (.p (.bool r))], s) := by
      apply exB
      rotate_left
      dsimp only [x57]
      apply seq_region
      · apply ops_step (oper_p rfl rfl rfl rfl); rfl
      apply seq_region
      · apply ops_step (oper_p rfl rfl rfl rfl)
        apply ops_step (oper_p rfl rfl (hpc (EV_call rfl)) (call_one1 (EV_call rfl) g1))
        apply ops_step (oper_p rfl rfl rfl (shr7 hq))
        apply ops_step (oper_p rfl rfl rfl (ha _ _))
        apply ops_step (oper_p rfl rfl rfl (he _ _))
        apply ops_step (oper_p rfl rfl rfl rfl); rfl
      · rfl
      · rfl
      · rfl
    obtain ⟨s, hb⟩ := hb
    exact pureF_of hb rfl
  rcases Nat.lt_or_ge u 128 with hu | hu
  · exact ⟨false, key 0 false (by omega) (fun _ _ => rfl) (fun _ _ => rfl), by rw [← g3]; simp; omega⟩
  · exact ⟨true, key 1 true (by omega) (fun _ _ => rfl) (fun _ _ => rfl), by rw [← g3]; simp; omega⟩

def bIdx : XCode := loopD x99.body
def fn7 : PL := .fn 57 []

structure AtX (rows : List (List PL)) (k : Nat) (s : St) : Prop where
  T : keepT s.T [0, 1, 7, 8] = [(0, .one (.p (.lst rows))), (1, .one (.p fn7)), (7, nI rows.length), (8, nI k)]

theorem callV_1 {E : Oracle} {b n : Nat} {h : HF} {x : PL} {r : PV} (hm : isHeapCall E (.call 57) = false) (hr : E.pure 57 [.one x] = some r) : evOp E b .callV [.one (.p fn7), .one (.p x)] h n = some ⟨inj r, [], [], []⟩ := by
  have hf : fnF 57 = 57 := rfl
  have ha : fnA 57 [DV.one (.p x)] [] = [.one (.p x)] := rfl
  simp only [fn7, evOp, opCallV, List.map_nil, hf, ha, evPure, mode_of hm, mapO, freezeV1, freezeDepth, freezeL, hr, List.flatMap_cons, List.flatMap_nil, idsV, idsL, List.append_nil, List.isEmpty_nil, Bool.true_or, cond_true]

theorem hpv {E : Oracle} {ds : List DV} (h : isHeapCall E (.call 57) = false) : isHeapOp E .callV (.one (.p fn7) :: ds) = false := h

section
variable {E : Oracle} {rows : List (List PL)} {k : Nat} {x : PL}
set_option maxRecDepth 100000 in
set_option maxHeartbeats 1000000 in
theorem idx_no (hm : isHeapCall E (.call 57) = false) (hi : rows[k]? = some [x]) (hr : E.pure 57 [.one x] = some (.one (.bool false))) (hk : k < 1000) {s : St} (hs : AtX rows k s) : ∃ s', evCode E 1000 0 bIdx s = some (.normal, s') ∧ AtX rows (k + 1) s' := by
  have hlt : k < rows.length := (List.getElem?_eq_some_iff.1 hi).1
  obtain ⟨T, H⟩ := s
  obtain ⟨hT⟩ := hs
  simp only at hT
  unfold bIdx
  dsimp only [x99, loopD, loopOf]
  apply exN
  apply keep_step hT
  apply seq_region
  · apply ops_step (oper_p rfl rfl rfl (lss_t hlt)); rfl
  apply seq_normal
  · apply cond_t rfl; rfl
  apply seq_normal
  · apply block_normal
    apply seq_region
    · apply ops_step (oper_p rfl rfl rfl rfl)
      apply ops_step (oper_p rfl rfl rfl rfl)
      rfl
    apply seq_region
    · apply ops_step (oper_p rfl rfl rfl rfl)
      apply ops_step (oper_p rfl rfl rfl rfl)
      apply ops_step (oper_p rfl rfl rfl rfl)
      apply ops_step (oper_p rfl rfl rfl (idx_lst hi rfl))
      apply ops_step (oper_p rfl rfl rfl rfl)
      apply ops_step (oper_p rfl rfl (hpv hm) (callV_1 hm hr))
      rfl
    apply cond_f rfl; rfl
  · apply just_region
    apply ops_step (oper_p rfl rfl rfl (add_n (y := 1) (by omega)))
    apply ops_step (oper_p rfl rfl rfl rfl)
    rfl
  · exact ⟨rfl⟩

set_option maxRecDepth 100000 in
set_option maxHeartbeats 1000000 in
theorem idx_yes (hm : isHeapCall E (.call 57) = false) (hi : rows[k]? = some [x]) (hr : E.pure 57 [.one x] = some (.one (.bool true))) {s : St} (hs : AtX rows k s) : ∃ s', evCode E 1000 0 bIdx s = some (.ret, s') ∧ getT s'.T 4 = some (nI k) := by
  have hlt : k < rows.length := (List.getElem?_eq_some_iff.1 hi).1
  obtain ⟨T, H⟩ := s
  obtain ⟨hT⟩ := hs
  simp only at hT
  unfold bIdx
  dsimp only [x99, loopD, loopOf]
  apply exE
  · apply keep_step hT
    apply seq_region
    · apply ops_step (oper_p rfl rfl rfl (lss_t hlt)); rfl
    apply seq_normal
    · apply cond_t rfl; rfl
    apply seq_ret
    apply block_ret
    apply seq_region
    · apply ops_step (oper_p rfl rfl rfl rfl)
      apply ops_step (oper_p rfl rfl rfl rfl)
      rfl
    apply seq_region
    · apply ops_step (oper_p rfl rfl rfl rfl)
      apply ops_step (oper_p rfl rfl rfl rfl)
      apply ops_step (oper_p rfl rfl rfl rfl)
      apply ops_step (oper_p rfl rfl rfl (idx_lst hi rfl))
      apply ops_step (oper_p rfl rfl rfl rfl)
      apply ops_step (oper_p rfl rfl (hpv hm) (callV_1 hm hr))
      rfl
    apply cond_t rfl
    apply seq_region
    · apply ops_step (oper_p rfl rfl rfl rfl)
      apply ops_step (oper_p rfl rfl rfl rfl)
      rfl
    · rfl
  · rfl

set_option maxRecDepth 100000 in
theorem idx_stop (hk : k = rows.length) {s : St} (hs : AtX rows k s) : ∃ s', evCode E 1000 0 bIdx s = some (.exit 0, s') := by
  obtain ⟨T, H⟩ := s
  obtain ⟨hT⟩ := hs
  simp only at hT
  unfold bIdx
  dsimp only [x99, loopD, loopOf]
  apply exE0
  apply keep_step hT
  apply seq_region
  · apply ops_step (oper_p rfl rfl rfl (lss_f (by omega))); rfl
  apply seq_exit
  apply cond_f rfl; rfl

/-- What reserved$1 answers about the row of a list. -/
def ResT (E : Oracle) (row : List PL) (is : Prop) : Prop := ∃ x r, row = [x] ∧ E.pure 57 [.one x] = some (.one (.bool r)) ∧ (r = true ↔ is)

theorem idx_loop {is : List PL → Prop} (hm : isHeapCall E (.call 57) = false) (hrows : ∀ c ∈ rows, ResT E c (is c)) (hl : rows.length < 500) : ∀ (N k : Nat) (s : St), rows.length < N + k → k ≤ rows.length → AtX rows k s →
    (∃ s' j, loopN (fun s => evCode E 1000 0 bIdx s) N s = some (.ret, s') ∧ getT s'.T 4 = some (nI j) ∧ ∃ c ∈ rows.drop k, is c) ∨ (∃ s', loopN (fun s => evCode E 1000 0 bIdx s) N s = some (.exit 0, s') ∧ ∀ c ∈ rows.drop k, ¬ is c)
  | 0, k, s, hN, hk, _ => by omega
  | N + 1, k, s, hN, hk, hs => by
    rcases Nat.lt_or_ge k rows.length with h | h
    · obtain ⟨x, r, h1, h2, h3⟩ := hrows _ (List.getElem_mem h)
      have hi : rows[k]? = some [x] := by rw [List.getElem?_eq_getElem h, h1]
      cases r with
      | true =>
        obtain ⟨s', g1, g2⟩ := idx_yes hm hi h2 hs
        exact .inl ⟨s', k, loop_ret g1, g2, rows[k], List.drop_eq_getElem_cons h ▸ List.mem_cons_self .., h3.1 rfl⟩
      | false =>
        obtain ⟨s1, g1, g2⟩ := idx_no hm hi h2 (by omega) hs
        have hn : ¬ is rows[k] := fun h => by have := h3.2 h; cases this
        rcases idx_loop hm hrows hl N (k + 1) s1 (by omega) (by omega) g2 with ⟨s', j, k1, k2, c, k3, k4⟩ | ⟨s', k1, k2⟩
        · exact .inl ⟨s', j, by rw [loop_next g1]; exact k1, k2, c, by rw [List.drop_eq_getElem_cons h]; exact List.mem_cons_of_mem _ k3, k4⟩
        · refine .inr ⟨s', by rw [loop_next g1]; exact k1, fun c hc => ?_⟩
          rw [List.drop_eq_getElem_cons h] at hc
          rcases List.mem_cons.1 hc with rfl | hc
          · exact hn
          · exact k2 c hc
    · obtain ⟨s', g1⟩ := idx_stop (E := E) (by omega) hs
      exact .inr ⟨s', loop_exit g1, fun c hc => by rw [List.drop_eq_nil_of_le (by omega)] at hc; cases hc⟩
end

end Go.Proofs.YthmlggklnfmidaaGreat
