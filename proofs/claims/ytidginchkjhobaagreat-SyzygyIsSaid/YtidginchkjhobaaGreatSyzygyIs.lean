/- For every input the law SyzygyIs returns true, and its arguments read behind the call as they read before. Conditions: none but those of the given row. -/
import Derived.Test.YtidginchkjhobaaGreatOpen
namespace Go.Proofs.YtidginchkjhobaaGreat
open Go.Ev Go.ChangeShapes Go.WideShapes Go.ChangeAt Go.RowKit

theorem Tryz.own : ownKnob Tryz.prog.godebug = none := by kernel_rfl
theorem Tryz.laidOut : laidOutB Tryz.prog = true := by kernel_rfl

theorem noLive : ∀ b, ¬ Live (fun _ => False) μ0 Go.Ev.h0 b := by
  intro b hb
  rcases hb with hb | ⟨id, blk, hb, -⟩
  · exact hb
  · cases hb

set_option maxRecDepth 100000 in
theorem syzygyIs_lifted (os : Os) (started : os.Started) (H : Type) (enc : TypeId × Value → H) :
    ReturnsInHanded {} Tryz.checked os 3 .any (Rows.syzygyIsSpec.pre6 enc Tryz.prog Tryz.f3 Rows.syzygyIsRow.domain false) (Rows.syzygyIsSpec.post enc Tryz.prog Tryz.f3 false true false false) := by
  refine returnsInHanded_of_change (C := Tryz.checked) Tryz.own started (by kernel_rfl) Tryz.func3
    (ChangeSpec.witness6 (enc := enc) (C := Tryz.checked) false ⟨#[], #[.agg #[.slice none 0 0, .int .u8 0], .agg #[.slice none 0 0, .slice none 0 0, .slice none 0 0], .int .u8 0], []⟩ 8 (by kernel_rfl) (by kernel_rfl) (by kernel_rfl) (by kernel_rfl)) ?_
  intro W base args ds gs before hval0 hW hcnd _
  have hval : ∀ (j : Nat) t v, Tryz.f3.params[j]? = some t → args[j]? = some v → Value.okWide Tryz.prog W .any base t v := hval0
  have hW' := hW
  obtain ⟨p, q, hA0, hV, rfl, hfz, hnd⟩ := hW
  have hA : DataW.TrodAll enc Tryz.prog W 0 (fun _ => true) true Tryz.f3.params.toList args.toList ds p := hA0
  rw [Tryz.params3] at hA hval
  obtain ⟨v0, v1, v2, d0, d1, d2, p0, p1, p2, rfl, rfl, rfl, k0, k1, k2⟩ := trodAll_three hA
  obtain ⟨rfl, rfl⟩ := trodVars_none hV
  obtain ⟨c0, rfl, hs0⟩ := okWide_struct Tryz.underlying24 (hval 0 24 v0 rfl rfl)
  obtain ⟨m2, rfl⟩ := okWide_int Tryz.underlying5 (hval 2 5 v2 rfl rfl)
  clear hA0 hval0
  simp only [List.append_nil] at hW'
  have hlt : ∀ x ∈ p0 ++ (p1 ++ p2), x.block < W.heap.size := fun x hx => by simpa using hW'.lt x (by simpa using hx)
  have j0 := k0
  have j1 := k1
  have j2 := k2
  obtain ⟨n0, f0⟩ := j0
  obtain ⟨n1, f1⟩ := j1
  obtain ⟨n2, f2⟩ := j2
  obtain ⟨x, L, k0', e0, hk0, hx, hL⟩ := rawG noLive f0
  obtain ⟨y0, y1, y2, q0, q1, q2, e1, hy0, hy1, hy2, hq0, hq1, hq2⟩ := rawA noLive f1
  obtain ⟨k, e2, hk⟩ := rawU n2 f2
  obtain ⟨c1, rfl⟩ := agg_of (v := v1) (by rw [e1]; simp)
  have g0 : c0 = [x, .int .u8 (Int.ofNat k0')].toArray := by rw [← e0]; simp [Value.cells]
  have g1 : c1 = [y0, y1, y2].toArray := by rw [← e1]; simp [Value.cells]
  simp only [Value.cells, List.cons.injEq, and_true] at e2
  obtain rfl : m2 = Int.ofNat k := by simpa using e2
  obtain ⟨K, n, hr⟩ := lawIs_ret BB_std sanity_ret (k := .int .u8 (Int.ofNat k0')) hL hq0 hq1 hq2 hk
  have hcc := ((BB_ok K n).pure _ _ _ hr).1 W (fun _ => False) [.agg c0, .agg c1, .int .u8 (Int.ofNat k)] (fun _ hb => hb.elim)
    (.cons ⟨[x, .int .u8 (Int.ofNat k0')], by rw [g0], .cons (RepD.p _ _ hx) (.cons (RepD.p _ _ (.int _ _)) .nil)⟩ (.cons ⟨[y0, y1, y2], by rw [g1], .cons (RepD.p _ _ hy0) (.cons (RepD.p _ _ hy1) (.cons (RepD.p _ _ hy2) .nil))⟩ (.cons (RepD.p _ _ (.int _ _)) .nil)))
  refine hcc.mono fun e W' ⟨v, he, hv, hB⟩ => ?_
  subst he
  obtain rfl := hv.inv_bool
  refine ⟨_, rfl, _, _, _, [], _, [], hW', ?_, trodAll_mk3 (Below.trod Tryz.laidOut (by kernel_rfl) (of_decide_eq_true (by kernel_rfl)) k0 hB (fun x hx => hlt x (by simp [hx]))) (Below.trod Tryz.laidOut (by kernel_rfl) (of_decide_eq_true (by kernel_rfl)) k1 hB (fun x hx => hlt x (by simp [hx]))) (Below.trod Tryz.laidOut (by kernel_rfl) (of_decide_eq_true (by kernel_rfl)) k2 hB (fun x hx => hlt x (by simp [hx]))), rfl, hB.frame _, fun h => by cases h⟩
  exact trodAll_mk1 (shut_bool Tryz.underlying4 true)

theorem syzygyIs_holds : Rows.SyzygyIsSaid :=
  OpenClaim.holds_of_wide 3 Tryz.f3 rfl rfl rfl rfl rfl rfl rfl ⟨rfl, rfl, rfl, rfl, rfl⟩ rfl rfl rfl rfl rfl (by kernel_rfl) Tryz.func3 (by kernel_rfl)
    (of_decide_eq_true (by kernel_rfl)) (by unfold Func.isWrapper; first | (rw [if_pos (by decide +kernel)]; kernel_rfl) | (rw [if_neg (by decide +kernel)]; exact ⟨rfl, rfl⟩))
    (fun os started H enc _ => syzygyIs_lifted os started H enc)

end Go.Proofs.YtidginchkjhobaaGreat
