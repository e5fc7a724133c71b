/- For every input the law DivisionErrors returns true, and its arguments read behind the call as they read before. Conditions: none but those of the given row. -/
import Derived.Test.YtefpgecinlekpaaGreatOpen
namespace Go.Proofs.YtefpgecinlekpaaGreat
open Go.Ev Go.ChangeShapes Go.WideShapes Go.ChangeAt Go.RowKit

theorem Tryz.own : ownKnob Tryz.prog.godebug = none := by kernel_rfl
theorem Tryz.laidOut : laidOutB Tryz.prog = true := by kernel_rfl

theorem noLive : ∀ b, ¬ Live (fun _ => False) μ0 Go.Ev.h0 b := by
  intro b hb
  rcases hb with hb | ⟨id, blk, hb, -⟩
  · exact hb
  · cases hb

set_option maxRecDepth 100000 in
theorem divisionErrors_lifted (os : Os) (started : os.Started) (H : Type) (enc : TypeId × Value → H) :
    ReturnsInHanded {} Tryz.checked os 6 .any (Rows.divisionErrorsSpec.pre6 enc Tryz.prog Tryz.f6 Rows.divisionErrorsRow.domain false) (Rows.divisionErrorsSpec.post enc Tryz.prog Tryz.f6 false true false false) := by
  refine returnsInHanded_of_change (C := Tryz.checked) Tryz.own started (by kernel_rfl) Tryz.func6
    (ChangeSpec.witness6 (enc := enc) (C := Tryz.checked) false ⟨#[], #[.agg #[.slice none 0 0], .agg #[.slice none 0 0, .int .u8 0]], []⟩ 8 (by kernel_rfl) (by kernel_rfl) (by kernel_rfl) (by kernel_rfl)) ?_
  intro W base args ds gs before hval0 hW hcnd _
  have hval : ∀ (j : Nat) t v, Tryz.f6.params[j]? = some t → args[j]? = some v → Value.okWide Tryz.prog W .any base t v := hval0
  have hW' := hW
  obtain ⟨p, q, hA0, hV, rfl, hfz, hnd⟩ := hW
  have hA : DataW.TrodAll enc Tryz.prog W 0 (fun _ => true) true Tryz.f6.params.toList args.toList ds p := hA0
  rw [Tryz.params6] at hA hval
  obtain ⟨v0, v1, d0, d1, p0, p1, rfl, rfl, rfl, k0, k1⟩ := trodAll_two hA
  obtain ⟨rfl, rfl⟩ := trodVars_none hV
  obtain ⟨c0, rfl, hs0⟩ := okWide_struct Tryz.underlying24 (hval 0 24 v0 rfl rfl)
  obtain ⟨c1, rfl, hs1⟩ := okWide_struct Tryz.underlying27 (hval 1 27 v1 rfl rfl)
  clear hA0 hval0
  simp only [List.append_nil] at hW'
  have hlt : ∀ x ∈ p0 ++ p1, x.block < W.heap.size := fun x hx => by simpa using hW'.lt x hx
  have j0 := k0
  have j1 := k1
  obtain ⟨n0, f0⟩ := j0
  obtain ⟨n1, f1⟩ := j1
  obtain ⟨u, R, e0, hu, hR⟩ := raw24 noLive f0
  obtain ⟨x, L, k, e1, hk, hx, hL⟩ := raw27 noLive f1
  have g0 : c0 = [u].toArray := by rw [← e0]; simp [Value.cells]
  have g1 : c1 = [x, .int .u8 (Int.ofNat k)].toArray := by rw [← e1]; simp [Value.cells]
  have hcc := ((EV_ok 41).pure _ _ _ (law6_ev hR hL hk)).1 W (fun _ => False) [.agg c0, .agg c1] (fun _ hb => hb.elim)
    (.cons ⟨[u], by rw [g0], .cons (RepD.p _ _ hu) .nil⟩ (.cons ⟨[x, .int .u8 (Int.ofNat k)], by rw [g1], .cons (RepD.p _ _ hx) (.cons (RepD.p _ _ (.int _ _)) .nil)⟩ .nil))
  refine hcc.mono fun e W' ⟨v, he, hv, hB⟩ => ?_
  subst he
  obtain rfl := hv.inv_bool
  refine ⟨_, rfl, _, _, _, [], _, [], hW', ?_, trodAll_mk2 (Below.trod Tryz.laidOut (by kernel_rfl) (of_decide_eq_true (by kernel_rfl)) k0 hB (fun x hx => hlt x (List.mem_append.2 (.inl hx)))) (Below.trod Tryz.laidOut (by kernel_rfl) (of_decide_eq_true (by kernel_rfl)) k1 hB (fun x hx => hlt x (List.mem_append.2 (.inr hx)))), rfl, hB.frame _, fun h => by cases h⟩
  exact trodAll_mk1 (shut_bool Tryz.underlying4 true)

theorem divisionErrors_holds : Rows.DivisionErrorsSaid :=
  OpenClaim.holds_of_wide 6 Tryz.f6 rfl rfl rfl rfl rfl rfl rfl ⟨rfl, rfl, rfl, rfl, rfl⟩ rfl rfl rfl rfl rfl (by kernel_rfl) Tryz.func6 (by kernel_rfl)
    (of_decide_eq_true (by kernel_rfl)) (by unfold Func.isWrapper; first | (rw [if_pos (by decide +kernel)]; kernel_rfl) | (rw [if_neg (by decide +kernel)]; exact ⟨rfl, rfl⟩))
    (fun os started H enc _ => divisionErrors_lifted os started H enc)

end Go.Proofs.YtefpgecinlekpaaGreat
