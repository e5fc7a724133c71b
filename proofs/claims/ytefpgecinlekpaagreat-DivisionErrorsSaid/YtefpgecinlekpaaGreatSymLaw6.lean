/- The law DivisionErrors, evaluated on every raw input (written by gen_symlaw6.py). -/
import Derived.Test.YtefpgecinlekpaaGreatSymPoly
import Derived.Test.YtefpgecinlekpaaGreatTabsOdd
import Derived.Test.YtefpgecinlekpaaGreatSanity
namespace Go.Proofs.YtefpgecinlekpaaGreat
open Go.Ev

section
variable {p l o : PL}

theorem call_0 {E : Oracle} {f b m : Nat} {h : HF} {r : PV} (hm : isHeapCall E (.call f) = false) (hr : E.pure f [] = some r) : evOp E b (.call f) [] h m = some ⟨inj r, [], [], []⟩ := by
  simp only [evOp, evPure, mode_of hm, mapO, List.flatMap_nil, hr, List.isEmpty_nil, Bool.true_or, cond_true]
theorem call_3 {E : Oracle} {f b m : Nat} {h : HF} {x y z : PL} {r : PV} (hm : isHeapCall E (.call f) = false) (hr : E.pure f [.one x, .one y, .one z] = some r) : evOp E b (.call f) [.one (.p x), .one (.p y), .one (.p z)] h m = some ⟨inj r, [], [], []⟩ := by
  have h1 : ∀ q : PL, freezeV1 h (.one (.p q)) = some (.one q) := fun _ => rfl
  have h2 : ∀ q : PL, idsV h (.one (.p q)) = [] := fun _ => rfl
  simp only [evOp, evPure, mode_of hm, mapO, h1, h2, List.flatMap_cons, List.flatMap_nil, hr, List.append_nil, List.isEmpty_nil, Bool.true_or, cond_true]
theorem call_4o {E : Oracle} {f b m : Nat} {h : HF} {x y z w : PL} {r : PV} (hm : isHeapCall E (.call f) = false) (hr : E.pure f [.one x, .one y, .one z, .one w] = some r) : evOp E b (.call f) [.one (.p x), .one (.p y), .one (.p z), .one (.p w)] h m = some ⟨inj r, [], [], []⟩ := by
  have h1 : ∀ q : PL, freezeV1 h (.one (.p q)) = some (.one q) := fun _ => rfl
  have h2 : ∀ q : PL, idsV h (.one (.p q)) = [] := fun _ => rfl
  simp only [evOp, evPure, mode_of hm, mapO, h1, h2, List.flatMap_cons, List.flatMap_nil, hr, List.append_nil, List.isEmpty_nil, Bool.true_or, cond_true]

set_option maxRecDepth 100000 in
theorem divide_ev (hV : (EV 12).pure 57 [.one o] = some (.one (.bool false))) : (EV 13).pure 48 [.one p, .one l, .one o] = some (.tup [.one .nilS, .one .nilS, .one (.int .i64 50)]) := by
  rw [EV_pure (n := 12) (xf := x48) rfl]
  have hb : ∃ s, evBody (EV 12) 1000 x48 ([.one p, .one l, .one o].map inj) [] = some ([.one (.p .nilS), .one (.p .nilS), .one (.p (.int .i64 50))], s) := by
    apply exB
    rotate_left
    dsimp only [x48]
    apply seq_region
    · apply ops_step (oper_p rfl rfl rfl rfl)
      apply ops_step (oper_p rfl rfl rfl rfl)
      apply ops_step (oper_p rfl rfl rfl rfl)
      rfl
    apply seq_ret
    apply seq_region
    · apply ops_step (oper_p rfl rfl rfl rfl)
      apply ops_step (oper_p rfl rfl (EV_call rfl) (call_one1 (EV_call rfl) hV))
      apply ops_step (oper_p rfl rfl rfl rfl)
      rfl
    apply cond_t rfl
    apply seq_region
    · apply ops_step (oper_p rfl rfl rfl rfl)
      apply ops_step (oper_p rfl rfl rfl rfl)
      apply ops_step (oper_p rfl rfl rfl rfl)
      rfl
    · rfl
    · rfl
    · rfl
  obtain ⟨s, hb⟩ := hb
  exact pureF_of hb rfl

set_option maxRecDepth 100000 in
theorem spair_ev (hV : (EV 12).pure 57 [.one o] = some (.one (.bool false))) : (EV 13).pure 24 [.one p, .one l, .one o] = some (.tup [.one .nilS, .one (.int .i64 50)]) := by
  rw [EV_pure (n := 12) (xf := x24) rfl]
  have hb : ∃ s, evBody (EV 12) 1000 x24 ([.one p, .one l, .one o].map inj) [] = some ([.one (.p .nilS), .one (.p (.int .i64 50))], s) := by
    apply exB
    rotate_left
    dsimp only [x24]
    apply seq_region
    · apply ops_step (oper_p rfl rfl rfl rfl)
      apply ops_step (oper_p rfl rfl rfl rfl)
      rfl
    apply seq_ret
    apply seq_region
    · apply ops_step (oper_p rfl rfl rfl rfl)
      apply ops_step (oper_p rfl rfl (EV_call rfl) (call_one1 (EV_call rfl) hV))
      apply ops_step (oper_p rfl rfl rfl rfl)
      rfl
    apply cond_t rfl
    apply seq_region
    · apply ops_step (oper_p rfl rfl rfl rfl)
      apply ops_step (oper_p rfl rfl rfl rfl)
      rfl
    · rfl
    · rfl
    · rfl
  obtain ⟨s, hb⟩ := hb
  exact pureF_of hb rfl

set_option maxRecDepth 100000 in
theorem isbasis_ev (hV : (EV 12).pure 57 [.one o] = some (.one (.bool false))) : (EV 13).pure 20 [.one l, .one o] = some (.one (.bool false)) := by
  rw [EV_pure (n := 12) (xf := x20) rfl]
  have hb : ∃ s, evBody (EV 12) 1000 x20 ([.one l, .one o].map inj) [] = some ([.one (.p (.bool false))], s) := by
    apply exB
    rotate_left
    dsimp only [x20]
    apply seq_region
    · apply ops_step (oper_yes rfl rfl rfl rfl)
      rfl
    apply seq_ret
    apply seq_region
    · apply ops_step (oper_p rfl rfl rfl rfl)
      apply ops_step (oper_p rfl rfl (EV_call rfl) (call_one1 (EV_call rfl) hV))
      apply ops_step (oper_p rfl rfl rfl rfl)
      rfl
    apply cond_t rfl
    apply seq_region
    · apply ops_step (oper_yes rfl rfl rfl rfl)
      rfl
    · rfl
    · rfl
    · rfl
  obtain ⟨s, hb⟩ := hb
  exact pureF_of hb rfl

set_option maxRecDepth 100000 in
theorem standard_ev (hV : (EV 12).pure 57 [.one o] = some (.one (.bool false))) : (EV 13).pure 18 [.one .nilS, .one .nilS, .one .nilS, .one o] = some (.one (.bool false)) := by
  rw [EV_pure (n := 12) (xf := x18) rfl]
  have hb : ∃ s, evBody (EV 12) 1000 x18 ([.one .nilS, .one .nilS, .one .nilS, .one o].map inj) [] = some ([.one (.p (.bool false))], s) := by
    apply exB
    rotate_left
    dsimp only [x18]
    apply seq_region
    · apply ops_step (oper_p rfl rfl rfl rfl)
      rfl
    apply seq_ret
    apply seq_region
    · apply ops_step (oper_p rfl rfl rfl rfl)
      apply ops_step (oper_p rfl rfl (EV_call rfl) (call_one1 (EV_call rfl) hV))
      apply ops_step (oper_p rfl rfl rfl rfl)
      apply ops_step (oper_p rfl rfl rfl rfl)
      apply ops_step (oper_no rfl)
      apply ops_step (oper_no rfl)
      apply ops_step (oper_no rfl)
      apply ops_step (oper_no rfl)
      apply ops_step (oper_no rfl)
      apply ops_step (oper_p rfl rfl rfl rfl)
      rfl
    apply keep_step rfl
    apply cond_t rfl
    apply seq_region
    · apply ops_step (oper_p rfl rfl rfl rfl)
      rfl
    · rfl
    · rfl
    · rfl
  obtain ⟨s, hb⟩ := hb
  exact pureF_of hb rfl

set_option maxRecDepth 100000 in
theorem divided_ev (hV : (EV 12).pure 57 [.one o] = some (.one (.bool false))) : (EV 14).pure 11 [.one p, .one l, .one o] = some (.agg [.nilS, .nilS, .int .i64 50]) := by
  rw [EV_pure (n := 13) (xf := x11) rfl]
  have hb : ∃ s, evBody (EV 13) 1000 x11 ([.one p, .one l, .one o].map inj) [] = some ([.agg [.p .nilS, .p .nilS, .p (.int .i64 50)]], s) := by
    apply exB
    rotate_left
    dsimp only [x11]
    apply seq_region
    · apply ops_step (oper_yes rfl rfl rfl rfl)
      rfl
    apply seq_region
    · apply ops_step (oper_p rfl rfl rfl rfl)
      apply ops_step (oper_p rfl rfl rfl rfl)
      apply ops_step (oper_p rfl rfl rfl rfl)
      apply ops_step (oper_p rfl rfl (EV_call rfl) (call_3 (EV_call rfl) (divide_ev hV)))
      apply ops_step (oper_p rfl rfl rfl rfl)
      apply ops_step (oper_p rfl rfl rfl rfl)
      apply ops_step (oper_p rfl rfl rfl rfl)
      apply ops_step (oper_p rfl rfl rfl rfl)
      apply ops_step (oper_p rfl rfl rfl rfl)
      apply ops_step (oper_p rfl rfl rfl rfl)
      apply ops_step (oper_p rfl rfl rfl rfl)
      rfl
    apply keep_step rfl
    apply seq_region
    · apply ops_step (oper_p rfl rfl rfl rfl)
      apply ops_step (oper_p rfl rfl rfl rfl)
      apply ops_step (oper_p rfl rfl rfl rfl)
      apply ops_step (oper_p rfl rfl rfl rfl)
      apply ops_step (oper_yes rfl rfl rfl rfl)
      rfl
    · rfl
    · rfl
    · rfl
  obtain ⟨s, hb⟩ := hb
  exact pureF_of hb rfl

end

set_option maxRecDepth 100000 in
set_option maxHeartbeats 1000000 in
/-- The law answers true on every raw input. -/
theorem law6_ev {R L : PL} {n : Nat} (hR : RawPoly R) (hL : ∃ ls, PolyL L ls ∧ ∀ c ∈ ls, ∃ R, c = [R] ∧ RawPoly R) (hn : n < 256) : (EV 41).pure 6 [.agg [R], .agg [L, .int .u8 (Int.ofNat n)]] = some (.one (.bool true)) := by
  obtain ⟨q, g1, -⟩ := poly_ev hR
  obtain ⟨ps, g3, -, -⟩ := list_23 (O := .int .u8 (Int.ofNat n)) hL
  have o1 := odd_ev hn
  have o2 := val_ev hn
  have o3 := standard_ev o2
  rw [EV_pure (n := 40) (xf := x6) rfl]
  have hb : ∃ s, evBody (EV 40) 1000 x6 ([.agg [R], .agg [L, .int .u8 (Int.ofNat n)]].map inj) [] = some ([.one (.p (.bool true))], s) := by
    apply exB
    rotate_left
    dsimp only [x6]
    apply seq_region
    · apply ops_step (oper_yes rfl rfl rfl rfl)
      apply ops_step (oper_yes rfl rfl rfl rfl)
      apply ops_step (oper_p rfl rfl rfl rfl)
      rfl
    apply seq_region
    · apply ops_step (oper_p rfl rfl (EV_call rfl) (call_0 (EV_call rfl) sanity_ev))
      apply ops_step (oper_p rfl rfl rfl rfl)
      rfl
    apply seq_normal
    · apply seq_region
      · apply ops_step (oper_p rfl rfl rfl rfl)
        apply ops_step (oper_p rfl rfl rfl rfl)
        rfl
      apply cond_f rfl; rfl
    apply seq_draw
    · apply draw_of
      · apply drw_step (oper_r rfl rfl rfl rfl) rfl
        apply drw_step (oper_p rfl rfl (EV_call rfl) (call_agg1 (x := [R]) (EV_call rfl) ((EV_le (by decide)).pure _ _ _ g1))) (EV_call rfl)
        apply drw_step (oper_r rfl rfl rfl rfl) rfl
        apply drw_step (oper_p rfl rfl (EV_call rfl) (call_agg1 (x := [L, .int .u8 (Int.ofNat n)]) (EV_call rfl) ((EV_le (by decide)).pure _ _ _ g3))) (EV_call rfl)
        apply drw_step (oper_p rfl rfl rfl rfl) rfl
        apply drw_step (oper_r rfl rfl rfl rfl) rfl
        apply drw_step (oper_p rfl rfl (EV_call rfl) (call_one1 (EV_call rfl) ((EV_le (by decide)).pure _ _ _ o1))) (EV_call rfl)
        apply drw_step (oper_p rfl rfl rfl rfl) rfl
        apply drw_step (oper_p rfl rfl rfl rfl) rfl
        apply drw_step (oper_p rfl rfl rfl rfl) rfl
        exact drw_nil
      · simp [footsOk, footOk, applyWr, addAl]
    apply keep_step rfl
    apply seq_region
    · apply ops_step (oper_p rfl rfl rfl rfl)
      apply ops_step (oper_p rfl rfl rfl rfl)
      apply ops_step (oper_p rfl rfl rfl rfl)
      apply ops_step (oper_p rfl rfl (EV_call rfl) (call_3 (EV_call rfl) ((EV_le (by decide)).pure _ _ _ (divided_ev o2))))
      apply ops_step (oper_yes rfl rfl rfl rfl)
      apply ops_step (oper_yes rfl rfl rfl rfl)
      rfl
    apply seq_region
    · apply ops_step (oper_p rfl rfl rfl rfl)
      apply ops_step (oper_p rfl rfl rfl rfl)
      apply ops_step (oper_p rfl rfl (EV_call rfl) (call_3 (EV_call rfl) ((EV_le (by decide)).pure _ _ _ (spair_ev o2))))
      apply ops_step (oper_p rfl rfl rfl rfl)
      apply ops_step (oper_p rfl rfl rfl rfl)
      apply ops_step (oper_p rfl rfl rfl rfl)
      apply ops_step (oper_p rfl rfl rfl rfl)
      apply ops_step (oper_p rfl rfl rfl rfl)
      rfl
    apply keep_step rfl
    apply seq_region
    · apply ops_step (oper_p rfl rfl rfl rfl)
      apply ops_step (oper_r rfl rfl rfl rfl)
      apply ops_step (oper_p rfl rfl rfl rfl)
      apply ops_step (oper_p rfl rfl rfl rfl)
      apply ops_step (oper_p rfl rfl rfl rfl)
      apply ops_step (oper_r rfl rfl rfl rfl)
      apply ops_step (oper_p rfl rfl rfl rfl)
      apply ops_step (oper_p rfl rfl rfl rfl)
      apply ops_step (oper_p rfl rfl rfl rfl)
      apply ops_step (oper_p rfl rfl rfl rfl)
      apply ops_step (oper_p rfl rfl rfl rfl)
      apply ops_step (oper_r rfl rfl rfl rfl)
      apply ops_step (oper_p rfl rfl rfl rfl)
      apply ops_step (oper_p rfl rfl rfl rfl)
      apply ops_step (oper_p rfl rfl rfl rfl)
      apply ops_step (oper_p rfl rfl rfl rfl)
      apply ops_step (oper_p rfl rfl rfl rfl)
      apply ops_step (oper_p rfl rfl rfl rfl)
      apply ops_step (oper_p rfl rfl rfl rfl)
      apply ops_step (oper_p rfl rfl rfl rfl)
      apply ops_step (oper_p rfl rfl rfl rfl)
      apply ops_step (oper_p rfl rfl rfl rfl)
      apply ops_step (oper_p rfl rfl rfl rfl)
      apply ops_step (oper_p rfl rfl rfl rfl)
      apply ops_step (oper_p rfl rfl rfl rfl)
      apply ops_step (oper_p rfl rfl rfl rfl)
      apply ops_step (oper_p rfl rfl rfl rfl)
      apply ops_step (oper_p rfl rfl (EV_call rfl) (call_one2 (EV_call rfl) ((EV_le (by decide)).pure _ _ _ (isbasis_ev o2))))
      apply ops_step (oper_p rfl rfl rfl rfl)
      apply ops_step (oper_p rfl rfl rfl rfl)
      apply ops_step (oper_p rfl rfl rfl rfl)
      apply ops_step (oper_p rfl rfl rfl rfl)
      apply ops_step (oper_p rfl rfl (EV_call rfl) (call_4o (EV_call rfl) ((EV_le (by decide)).pure _ _ _ o3)))
      apply ops_step (oper_p rfl rfl rfl rfl)
      apply ops_step (oper_p rfl rfl rfl rfl)
      apply ops_step (oper_p rfl rfl rfl rfl)
      apply ops_step (oper_p rfl rfl (EV_call rfl) (call_4o (EV_call rfl) ((EV_le (by decide)).pure _ _ _ std_nil)))
      apply ops_step (oper_p rfl rfl rfl rfl)
      apply ops_step (oper_p rfl rfl rfl rfl)
      apply ops_step (oper_p rfl rfl rfl rfl)
      apply ops_step (oper_p rfl rfl rfl rfl)
      apply ops_step (oper_p rfl rfl rfl rfl)
      rfl
    · rfl
    · rfl
    · rfl
  obtain ⟨s, hb⟩ := hb
  exact pureF_of hb rfl

end Go.Proofs.YtefpgecinlekpaaGreat
