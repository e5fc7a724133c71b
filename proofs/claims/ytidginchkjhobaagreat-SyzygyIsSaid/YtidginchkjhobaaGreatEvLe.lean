/- An oracle that knows more answers no less. -/
import Derived.Test.YtidginchkjhobaaGreatEvTop
namespace Go.Ev

structure OLe (E E' : Oracle) : Prop where
  mode : E'.mode = E.mode
  pure : ∀ f a r, E.pure f a = some r → E'.pure f a = some r
  heap : ∀ f a H r, E.heap f a H = some r → E'.heap f a H = some r
  iter : E'.iter = E.iter

section
variable {E E' : Oracle}

theorem evPure_le (hE : OLe E E') {h : HF} {f : Nat} {vs : List DV} {r : Res} (hr : evPure E h f vs = some r) : evPure E' h f vs = some r := by
  unfold evPure at hr ⊢
  rw [hE.mode]
  cases hm : E.mode f with
  | heap => simp [hm] at hr
  | pure =>
  simp only [hm] at hr ⊢
  cases hv : mapO (freezeV1 h) vs with
  | none => simp [hv] at hr
  | some ps =>
  simp only [hv] at hr ⊢
  cases hp : E.pure f ps with
  | none => simp [hp] at hr
  | some q =>
  simp only [hp] at hr
  simp only [hE.pure f ps q hp]
  exact hr

theorem evOp_le (hE : OLe E E') {b : Nat} {op : XOp} {vs : List DV} {h : HF} {n : Nat} {r : Res} (hr : evOp E b op vs h n = some r) : evOp E' b op vs h n = some r := by
  cases op with
  | call f => exact evPure_le hE hr
  | callV =>
    simp only [evOp, opCallV] at hr ⊢
    split at hr
    · exact evPure_le hE hr
    · exact evPure_le hE hr
    · simp at hr
  | _ => exact hr

theorem isHeapF_le (hE : OLe E E') (f : Nat) : isHeapF E' f = isHeapF E f := by
  unfold isHeapF; rw [hE.mode]
theorem isHeapCall_le (hE : OLe E E') (op : XOp) : isHeapCall E' op = isHeapCall E op := by
  unfold isHeapCall
  split
  · exact isHeapF_le hE _
  · rfl
theorem isHeapOp_le (hE : OLe E E') (op : XOp) (vs : List DV) : isHeapOp E' op vs = isHeapOp E op vs := by
  unfold isHeapOp
  split
  · exact isHeapF_le hE _
  · split
    · exact isHeapF_le hE _
    · exact isHeapF_le hE _
    · rfl
  · rfl
theorem evHeapCall_le (hE : OLe E E') {dst : Option Nat} {f : Nat} {vs : List DV} {s : St} {r : St × List Nat × List Nat} (hr : evHeapCall E dst f vs s = some r) : evHeapCall E' dst f vs s = some r := by
  unfold evHeapCall at hr ⊢
  rw [hE.mode]
  cases hm : E.mode f with
  | pure => simp [hm] at hr
  | heap =>
  simp only [hm] at hr ⊢
  cases hh : E.heap f vs s.H with
  | none => simp [hh] at hr
  | some q =>
  simp only [hh] at hr
  simp only [hE.heap f vs s.H q hh]
  exact hr

theorem evOper_le (hE : OLe E E') {b : Nat} {hp : Bool} {o : XOper} {s : St} {r : St × List Nat × List Nat} (hr : evOper E b hp o s = some r) : evOper E' b hp o s = some r := by
  unfold evOper at hr ⊢
  cases hg : guardOk s.T o.guard with
  | none => simp [hg] at hr
  | some g =>
  cases g with
  | false => simp only [hg] at hr ⊢; exact hr
  | true =>
  simp only [hg] at hr ⊢
  cases hv : mapO (XOpd.eval s.T) o.args with
  | none => simp [hv] at hr
  | some vs =>
  simp only [hv, isHeapOp_le hE] at hr ⊢
  cases hc : (hp && isHeapOp E o.op vs) with
  | true =>
    simp only [hc, cond_true] at hr ⊢
    unfold heapCall at hr ⊢
    split at hr
    · exact evHeapCall_le hE hr
    · split at hr
      · exact evHeapCall_le hE hr
      · exact evHeapCall_le hE hr
      · simp at hr
    · simp at hr
  | false =>
    simp only [hc, cond_false] at hr ⊢
    cases he : evOp E b o.op vs (HFof s.H) s.H.length with
    | none => simp [he] at hr
    | some q =>
    simp only [he] at hr
    simp only [evOp_le hE he]
    exact hr

theorem evOps_le (hE : OLe E E') {b : Nat} : ∀ {os : List XOper} {s s' : St}, evOps E b os s = some s' → evOps E' b os s = some s'
  | [], _, _, h => h
  | o :: os, s, s', h => by
    simp only [evOps] at h ⊢
    cases he : evOper E b true o s with
    | none => simp [he] at h
    | some q =>
    obtain ⟨s1, rd, wr⟩ := q
    simp only [he] at h
    simp only [evOper_le hE he]
    exact evOps_le hE h

theorem evOpsD_le (hE : OLe E E') {b : Nat} : ∀ {os : List XOper} {i : Nat} {s : St} {r : St × List Foot}, evOpsD E b i os s = some r → evOpsD E' b i os s = some r
  | [], _, _, _, h => h
  | o :: os, i, s, r, h => by
    simp only [evOpsD, isHeapCall_le hE] at h ⊢
    cases hc : (isHeapCall E o.op && !(os.isEmpty && allBelow o.after i)) with
    | true => rw [hc] at h; simp at h
    | false =>
    simp only [hc, cond_false] at h ⊢
    cases he : evOper E b (isHeapCall E o.op) o s with
    | none => simp [he] at h
    | some q =>
    obtain ⟨s1, rd, wr⟩ := q
    simp only [he] at h
    simp only [evOper_le hE he]
    cases hd : evOpsD E b (i + 1) os s1 with
    | none => simp [hd] at h
    | some q2 =>
    simp only [hd] at h
    simp only [evOpsD_le hE hd]
    exact h

theorem evDraw_le (hE : OLe E E') {b : Nat} {os : List XOper} {s s' : St} (h : evDraw E b os s = some s') : evDraw E' b os s = some s' := by
  unfold evDraw at h ⊢
  cases hd : evOpsD E b 0 os s with
  | none => simp [hd] at h
  | some q =>
  simp only [hd] at h
  simp only [evOpsD_le hE hd]
  exact h

theorem loopN_le {f g : St → Option (Ex × St)} (hfg : ∀ s r, f s = some r → g s = some r) : ∀ (N N' : Nat), N ≤ N' → ∀ (s : St) (r : Ex × St), loopN f N s = some r → loopN g N' s = some r
  | 0, _, _, _, _, h => by simp [loopN] at h
  | N + 1, 0, hN, _, _, _ => by omega
  | N + 1, N' + 1, hN, s, r, h => by
    simp only [loopN] at h ⊢
    cases hf : f s with
    | none => simp [hf] at h
    | some q =>
    rw [hfg s q hf]
    rw [hf] at h
    obtain ⟨e, s1⟩ := q
    cases e with
    | normal => exact loopN_le hfg N N' (by omega) s1 r h
    | exit j => exact h
    | ret => exact h

theorem roundsN_le {f g : St → Option (Ex × St)} (hfg : ∀ s r, f s = some r → g s = some r) (T : List (Nat × DV)) (vars : List Nat) : ∀ (xss : List (List PV)) (H : List Blk) (r : Ex × St), roundsN T f vars xss H = some r → roundsN T g vars xss H = some r
  | [], _, _, h => h
  | xs :: rest, H, r, h => by
    simp only [roundsN] at h ⊢
    cases hs : setTs vars xs T with
    | none => simp [hs] at h
    | some T1 =>
    simp only [hs] at h ⊢
    cases hf : f ⟨T1, H⟩ with
    | none => simp [hf] at h
    | some q =>
    rw [hfg _ q hf]
    rw [hf] at h
    obtain ⟨e, s1⟩ := q
    cases e with
    | normal => exact roundsN_le hfg T vars rest s1.H r h
    | exit j => exact h
    | ret => exact h

theorem evCode_le (hE : OLe E E') {K K' b : Nat} (hK : K ≤ K') : ∀ (c : XCode) (s : St) (r : Ex × St), evCode E K b c s = some r → evCode E' K' b c s = some r := by
  intro c
  induction c with
  | skip => intro s r h; exact h
  | region d os =>
    intro s r h
    cases d with
    | false =>
      simp only [evCode] at h ⊢
      cases he : evOps E b os s with
      | none => simp [he] at h
      | some s1 => simp only [he] at h; simp only [evOps_le hE he]; exact h
    | true =>
      simp only [evCode] at h ⊢
      cases he : evDraw E b os s with
      | none => simp [he] at h
      | some s1 => simp only [he] at h; simp only [evDraw_le hE he]; exact h
  | regionS pre suf =>
    intro s r h
    simp only [evCode, evDrawS] at h ⊢
    cases he : evDraw E b pre s with
    | none => simp [he] at h
    | some s1 =>
    simp only [he] at h
    simp only [evDraw_le hE he]
    cases he2 : evOps E b suf s1 with
    | none => simp [he2] at h
    | some s2 => simp only [he2] at h; simp only [evOps_le hE he2]; exact h
  | seq a c iha ihc =>
    intro s r h
    simp only [evCode] at h ⊢
    cases he : evCode E K b a s with
    | none => simp [he] at h
    | some q =>
    rw [iha s q he]
    rw [he] at h
    obtain ⟨e, s1⟩ := q
    cases e with
    | normal => exact ihc s1 r h
    | exit j => exact h
    | ret => exact h
  | cond q a c iha ihc =>
    intro s r h
    simp only [evCode] at h ⊢
    split at h
    · exact iha s r h
    · exact ihc s r h
    · simp at h
  | block j a iha =>
    intro s r h
    simp only [evCode] at h ⊢
    cases he : evCode E K b a s with
    | none => simp [he] at h
    | some q => rw [iha s q he]; rw [he] at h; exact h
  | loop a iha =>
    intro s r h
    simp only [evCode] at h ⊢
    exact loopN_le iha K K' hK s r h
  | keep ks a iha =>
    intro s r h
    simp only [evCode, keepK_eq] at h ⊢
    exact iha _ r h
  | scope a iha => intro s r h; exact iha s r h
  | exit j => intro s r h; exact h
  | ret => intro s r h; exact h
  | rfun f vars pre body ihp ihb =>
    intro s r h
    simp only [evCode] at h ⊢
    split at h
    · rename_i gf caps hq
      simp only [hE.iter]
      cases hi : E.iter gf caps with
      | none => simp [hi] at h
      | some xss =>
      simp only [hi] at h ⊢
      obtain ⟨hfl, h⟩ := cond_or h
      rw [hfl, cond_true]
      refine roundsN_le (fun s r hr => ?_) s.T vars xss s.H r h
      unfold roundIn at hr ⊢
      split at hr
      · rename_i s1 hp
        show (match evCode E' K' b pre s with
          | some (.normal, s) => evCode E' K' b body s
          | _ => none) = some r
        rw [ihp s _ hp]
        exact ihb s1 r hr
      · simp at hr
    · simp at h

theorem evBody_le (hE : OLe E E') {K K' : Nat} (hK : K ≤ K') {xf : XFunc} {args : List DV} {H : List Blk} {r : List DV × St} (h : evBody E K xf args H = some r) : evBody E' K' xf args H = some r := by
  unfold evBody at h ⊢
  rw [argsK_eq] at h ⊢
  cases hle : Nat.ble args.length xf.ntmps with
  | false => rw [hle] at h; simp at h
  | true =>
  rw [hle, cond_true] at h
  rw [cond_true]
  cases he : evCode E K 0 xf.body ⟨argsT args 0, H⟩ with
  | none => simp [he] at h
  | some q =>
  rw [evCode_le hE hK _ _ _ he]
  rw [he] at h
  exact h

theorem lift_le (hE : OLe E E') (X : Nat → Option XFunc) {K K' : Nat} (hK : K ≤ K') : OLe (lift X K E) (lift X K' E') := by
  refine ⟨hE.mode, fun f a r h => ?_, fun f a H r h => ?_, hE.iter⟩
  · simp only [lift] at h ⊢
    cases hx : X f with
    | none => rw [hx] at h; exact hE.pure f a r h
    | some xf =>
      rw [hx] at h
      simp only [evPureF] at h ⊢
      cases hb : evBody E K xf (a.map inj) [] with
      | none => simp [hb] at h
      | some q => rw [hb] at h; rw [evBody_le hE hK hb]; exact h
  · simp only [lift] at h ⊢
    cases hx : X f with
    | none => rw [hx] at h; exact hE.heap f a H r h
    | some xf =>
      rw [hx] at h
      simp only [evHeapF] at h ⊢
      cases hb : evBody E K xf a H with
      | none => simp [hb] at h
      | some q => rw [hb] at h; rw [evBody_le hE hK hb]; exact h

end

theorem OLe.refl (E : Oracle) : OLe E E := ⟨rfl, fun _ _ _ h => h, fun _ _ _ _ h => h, rfl⟩
theorem OLe.trans {E1 E2 E3 : Oracle} (h : OLe E1 E2) (k : OLe E2 E3) : OLe E1 E3 :=
  ⟨k.mode.trans h.mode, fun f a r e => k.pure f a r (h.pure f a r e), fun f a H r e => k.heap f a H r (h.heap f a H r e), k.iter.trans h.iter⟩

/-- What the interpreter answers it answers with more rounds, and deeper. -/
theorem ev_le (E0 : Oracle) (X : Nat → Option XFunc) (h0 : ∀ K, OLe E0 (lift X K E0)) {K K' : Nat} (hK : K ≤ K') : ∀ {n m : Nat}, n ≤ m → OLe (ev E0 X K n) (ev E0 X K' m) := by
  have up : ∀ n, OLe (ev E0 X K n) (ev E0 X K' n) := by
    intro n
    induction n with
    | zero => exact OLe.refl _
    | succ n ih => exact lift_le ih X hK
  have step : ∀ n, OLe (ev E0 X K' n) (ev E0 X K' (n + 1)) := by
    intro n
    induction n with
    | zero => exact h0 K'
    | succ n ih => exact lift_le ih X (Nat.le_refl _)
  intro n m hnm
  refine (up n).trans ?_
  induction m with
  | zero => rw [show n = 0 by omega]; exact OLe.refl _
  | succ m ih =>
    by_cases e : n = m + 1
    · subst e; exact OLe.refl _
    · exact (ih (by omega)).trans (step m)

end Go.Ev
