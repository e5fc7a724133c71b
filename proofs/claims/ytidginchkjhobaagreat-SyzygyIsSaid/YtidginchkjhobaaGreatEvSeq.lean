/- Slots; one operation under the model's weakest preconditions; regions in the order of the text. -/
import Derived.Test.YtidginchkjhobaaGreatEvOpSim
import Derived.RangeFuncSeq
namespace Go.Ev
open Go.RowKit
section
variable {lo : Nat} {P : Program} {O : BS} {w : World} {μ : Nat → Nat} {h : HF} {n : Nat}

/-- Marks of loops over functions: blocks that nothing else reaches, made since 'lo'. -/
def mark0 (D : Nat) : Deferred := { target := .collected D, args := #[] }
def Marks (lo : Nat) (O : BS) (w : World) (μ : Nat → Nat) (h : HF) (ds : List Deferred) : Prop :=
  lo ≤ w.heap.size ∧ ds.Pairwise (fun x y => x.target ≠ y.target) ∧ ∀ d ∈ ds, ∃ D, d = mark0 D ∧ lo ≤ D ∧ w.heap[D]? = some (.deferred (some [])) ∧ ¬ Live O μ h D

theorem Marks.mono {lo : Nat} {w' : World} {μ' : Nat → Nat} {h' : HF} {ds : List Deferred} (s : Marks lo O w μ h ds) (m : Mono O w μ h w' μ' h') : Marks lo O w' μ' h' ds := by
  refine ⟨Nat.le_trans s.1 m.keeps.size, s.2.1, fun d hd => ?_⟩
  obtain ⟨D, h1, h2, h3, h4⟩ := s.2.2 d hd
  have hlt : D < w.heap.size := (Array.getElem?_eq_some_iff.1 h3).1
  refine ⟨D, h1, h2, (m.keeps.keep D hlt h4).trans h3, fun hl => ?_⟩
  rcases m.keeps.live D hl with h | h
  · exact h4 h
  · omega

/-- The slots of an activation stand for T. -/
structure Slots (lo nt : Nat) (O : BS) (w : World) (μ : Nat → Nat) (h : HF) (a : Act) (T : List (Nat × DV)) : Prop where
  dfr : Marks lo O w μ h a.defers
  sz : a.tmps.size = nt
  slot : ∀ t d, getT T t = some d → RepV w O μ h (a.tmps.getD t undef) d

theorem Slots.mono {nt : Nat} {w' : World} {μ' : Nat → Nat} {h' : HF} {a : Act} {T : List (Nat × DV)} (s : Slots lo nt O w μ h a T) (m : Mono O w μ h w' μ' h') : Slots lo nt O w' μ' h' a T :=
  ⟨s.dfr.mono m, s.sz, fun t d hd => (s.slot t d hd).mono m⟩

theorem getT_cons (t : Nat) (v : DV) (T : List (Nat × DV)) (k : Nat) : getT ((t, v) :: T) k = if t = k then some v else getT T k := by
  simp only [getT]
  by_cases e : t = k
  · subst e; simp [Nat.beq_refl]
  · rw [if_neg e]
    have : Nat.beq t k = false := by
      cases hb : Nat.beq t k
      · rfl
      · exact absurd (Nat.eq_of_beq_eq_true hb) e
    rw [this]; rfl

theorem Slots.put {nt : Nat} {a : Act} {T : List (Nat × DV)} (s : Slots lo nt O w μ h a T) (dst : Option Nat) (hd : dstOk nt dst = true) (v : Value) (d : DV) (hv : RepV w O μ h v d) : Slots lo nt O w μ h (a.put dst v) (putT T dst d) := by
  cases dst with
  | none => exact s
  | some q =>
    have hq : q < nt := blt_lt hd
    refine ⟨s.dfr, by simp [Act.put, s.sz], fun t d' ht => ?_⟩
    simp only [putT, getT_cons] at ht
    simp only [Act.put]
    by_cases e : q = t
    · subst e
      rw [if_pos rfl] at ht; cases ht
      have : (a.tmps.setIfInBounds q v).getD q undef = v := by
        rw [Array.getD_eq_getD_getElem?, Array.getElem?_setIfInBounds_self_of_lt (by rw [s.sz]; exact hq)]; rfl
      rw [this]; exact hv
    · rw [if_neg e] at ht
      have : (a.tmps.setIfInBounds q v).getD t undef = a.tmps.getD t undef := by
        rw [Array.getD_eq_getD_getElem?, Array.getElem?_setIfInBounds_ne e, Array.getD_eq_getD_getElem?]
      rw [this]; exact s.slot t d' ht

theorem litV_rep {v : Value} {p : PV} (hl : litV v = some p) : RepV w O μ h v (inj p) := by
  unfold litV at hl
  split at hl
  · rename_i cs
    cases hm : mapO litL cs.toList with
    | none => simp [hm] at hl
    | some ls =>
    simp only [hm, Option.some.injEq] at hl; subst hl
    refine ⟨cs.toList, by simp, ?_⟩
    have := mapO_all2 (R := fun v l => litL v = some l) (fun _ _ e => e) hm
    generalize cs.toList = vs at this
    clear hm
    induction this with
    | nil => exact .nil
    | cons hx _ ih => exact .cons (.p _ _ (litL_rep hx _)) ih
  · rename_i vs
    split at hl <;> simp only [Option.some.injEq, reduceCtorEq] at hl
    subst hl
    rename_i he
    have : vs = #[] := by simpa using he
    subst this
    exact ⟨[], rfl, .nil⟩
  · cases hm : litL v with
    | none => simp [hm] at hl
    | some l =>
    simp only [hm, Option.some.injEq] at hl; subst hl
    exact RepD.p _ _ (litL_rep hm _)

theorem Slots.eval {nt : Nat} {a : Act} {T : List (Nat × DV)} (s : Slots lo nt O w μ h a T) (x : Operand) (xo : XOpd) (d : DV) (hc : compOpd x = some xo) (he : xo.eval T = some d) : RepV w O μ h (a.eval x) d := by
  cases x with
  | tmp t => simp only [compOpd, Option.some.injEq] at hc; subst hc; exact s.slot t d he
  | const v =>
    simp only [compOpd] at hc
    cases hl : litV v with
    | none => simp [hl] at hc
    | some p =>
    simp only [hl, Option.some.injEq] at hc; subst hc
    simp only [XOpd.eval, Option.some.injEq] at he; subst he
    exact litV_rep hl
  | global g => simp [compOpd] at hc
  | func f =>
    simp only [compOpd] at hc
    split at hc <;> simp only [Option.some.injEq, reduceCtorEq] at hc
    rename_i hb
    subst hc
    simp only [XOpd.eval, Option.some.injEq] at he; subst he
    have := RepP.fn (w := w) (O := Live O μ h) f [] [] rfl fun i d v hd => by simp at hd
    rw [fnV_t hb] at this
    exact RepD.p _ _ this

/-- A function with a body is entered. -/
def Ent (P : Program) (f : Nat) : Prop := ∀ (args : Array Value) (w : World), (callFunc f args).run P w = .ok (.enter f args) w

theorem ent_of {f : FuncId} {fn : Func} {c : Code} (hf : P.funcs[f]? = some fn) (hname : (fn.name == "runtime.NumGoroutine") = false) (hb : fn.body = some c) : Ent P f := by
  intro args w
  have h1 : fn.name ≠ "runtime.NumGoroutine" := by simpa using hname
  simp [callFunc, hf, h1, hb, mark]

def isCallX : XOp → Bool
  | .call _ => true
  | .callV => true
  | _ => false

theorem compOp_call {op : Op} {xop : XOp} {xargs : List XOpd} (h1 : compOp P op = some (xop, xargs)) (h2 : isCallX xop = true) : ∃ c, op = .call c := by
  cases op with
  | call c => exact ⟨c, rfl⟩
  | makeFunc fn first caps =>
    cases fn <;> simp only [compOp] at h1 <;> (repeat' split at h1) <;> simp only [Option.some.injEq, Prod.mk.injEq, reduceCtorEq] at h1 <;> (try (obtain ⟨rfl, rfl⟩ := h1; simp [isCallX] at h2))
  | makeMap t rv => cases rv <;> simp only [compOp] at h1 <;> (repeat' split at h1) <;> simp only [Option.some.injEq, Prod.mk.injEq, reduceCtorEq] at h1 <;> (try (obtain ⟨rfl, rfl⟩ := h1; simp [isCallX] at h2))
  | slice t x lo hi mx =>
    cases mx with
    | none => simp only [compOp] at h1 <;> (repeat' split at h1) <;> simp only [Option.some.injEq, Prod.mk.injEq, reduceCtorEq] at h1 <;> (try (obtain ⟨rfl, rfl⟩ := h1; simp [isCallX] at h2))
    | some m =>
      cases lo with
      | none => simp [compOp] at h1
      | some l =>
      cases hi with
      | none => simp [compOp] at h1
      | some u => simp only [compOp] at h1 <;> (repeat' split at h1) <;> simp only [Option.some.injEq, Prod.mk.injEq, reduceCtorEq] at h1 <;> (try (obtain ⟨rfl, rfl⟩ := h1; simp [isCallX] at h2))
  | _ => simp only [compOp] at h1 <;> (repeat' split at h1) <;> simp only [Option.some.injEq, Prod.mk.injEq, reduceCtorEq] at h1 <;> (try (obtain ⟨rfl, rfl⟩ := h1; simp [isCallX] at h2))

/-- A call that may write the caller's blocks. -/
def CH (P : Program) (f : Nat) (args : List DV) (H : List Blk) (d : DV) (H' : List Blk) : Prop :=
  ∀ (w : World) (O : BS) (μ : Nat → Nat) (vs : List Value), HInv w O μ (HFof H) → All2 (RepV w O μ (HFof H)) vs args →
    Calls P f vs.toArray w fun e w' => ∃ v μ', e = .returned v ∧ RepV w' O μ' (HFof H') v d ∧ HInv w' O μ' (HFof H') ∧ Mono O w μ (HFof H) w' μ' (HFof H')

/-- What a function that is ranged over does: it calls yield with the members of a list, in their order, until yield says no. -/
def IterOk (P : Program) (f : Nat) (caps : List PL) (xss : List (List PV)) : Prop :=
  ∀ (l : Nat) (cv : List Value) (J : Nat → World → Prop) (Jx : World → Prop),
    (∀ i W, J i W → ∃ L : BS, All2 (RepP W L) cv caps) →
    (∀ i W xs vs, J i W → xss[i]? = some xs → All2 (fun v x => ∀ L μ h, RepV W L μ h v (inj x)) vs xs → YieldAt Fence.wide 0 P l vs.toArray W fun e W' => (e = .returned (.bool true) ∧ J (i + 1) W') ∨ (e = .returned (.bool false) ∧ Jx W')) →
    ∀ W, J 0 W → CallsIn Fence.wide 0 P f (#[.func (.yield l) #[] #[]] ++ cv.toArray) W fun e W' => (∃ v, e = .returned v) ∧ (J xss.length W' ∨ Jx W')

structure OracleOk (P : Program) (E : Oracle) : Prop where
  pure : ∀ f ps r, E.pure f ps = some r → CC P f ps r ∧ Ent P f
  heap : ∀ f args H d H', E.heap f args H = some (d, H') → CH P f args H d H' ∧ Ent P f
  iter : ∀ f caps xss, E.iter f caps = some xss → IterOk P f caps xss ∧ Ent P f

theorem wp_of_sim {a : Act} {o : Oper} {r : Res} {next : Act → World → Prop} {Q : Exit → Act → World → Prop} (hs : Sim1 O w μ h n ((execOp a.eval o).run P w) r)
    (hk : ∀ v w' μ', RepV w' O μ' (upd h n r) v r.val → HInv w' O μ' (upd h n r) → Mono O w μ h w' μ' (upd h n r) → next (a.put o.dst v) w') : o.wp P a w next Q := by
  obtain ⟨v, w', μ', hres, h1, h2, h3⟩ := hs
  unfold Oper.wp
  rcases hres with hres | ⟨hres, rfl⟩
  · rw [hres]; exact hk v w' μ' h1 h2 h3
  · rw [hres]; exact hk _ w' μ' h1 h2 h3

theorem all2_map {α β : Type} {R : Value → β → Prop} (g : α → Value) {xs : List α} {ys : List β} (ha : All2 (fun x y => R (g x) y) xs ys) : All2 R (xs.map g) ys := by
  induction ha with
  | nil => exact .nil
  | cons h1 _ ih => exact .cons h1 ih

/-- The run of a call of a function value. -/
theorem run_callf {a : Act} {o : Oper} (args : Array Operand) (tys : Array TypeId) (f : Nat) (ho : o.op = .call ⟨.value (.func f), args, tys⟩) (he : Ent P f) :
    (execOp a.eval o).run P w = .ok (.enter f (args.toList.map a.eval).toArray) w := by
  have e1 : ∀ (q : Array Value), (callFunc f q).run P w = .ok (.enter f q) w := fun q => he q w
  have hx : a.eval (.func f) = .func (.func f) #[] #[] := rfl
  simp only [execOp, ho, resolve, Deferred.ofValue, hx, Sem.run_bind, Sem.run_pure, Result.andThen_ok, invoke, e1]
  congr 2
  apply Array.ext'; simp
theorem run_callv {a : Act} {o : Oper} (x : Operand) (args : Array Operand) (tys : Array TypeId) (ho : o.op = .call ⟨.value x, args, tys⟩) (f : Nat) (cv : List Value) (hx : a.eval x = fnV f cv) (he : Ent P (fnF f)) :
    (execOp a.eval o).run P w = .ok (.enter (fnF f) (fnA f (args.toList.map a.eval) cv).toArray) w := by
  have e1 : ∀ (q : Array Value), (callFunc (fnF f) q).run P w = .ok (.enter (fnF f) q) w := fun q => he q w
  cases hb : Nat.blt f bnd with
  | true =>
    rw [fnV_t hb] at hx
    have hf : fnF f = f := by simp only [fnF, hb, cond_true]
    rw [hf] at e1
    simp only [execOp, ho, resolve, Deferred.ofValue, hx, Sem.run_bind, Sem.run_pure, Result.andThen_ok, invoke, e1, hf, fnA, hb, cond_true]
    congr 2
    apply Array.ext'; simp
  | false =>
    rw [fnV_f hb] at hx
    have hf : fnF f = f - bnd := by simp only [fnF, hb, cond_false]
    rw [hf] at e1
    simp only [execOp, ho, resolve, Deferred.ofValue, hx, Sem.run_bind, Sem.run_pure, Result.andThen_ok, invoke, e1, hf, fnA, hb, cond_false]
    congr 2
    apply Array.ext'; simp
theorem fnA_all2 {α β : Type} {R : α → β → Prop} (f : Nat) {vs cv : List α} {ds cs : List β} (h1 : All2 R vs ds) (h2 : All2 R cv cs) : All2 R (fnA f vs cv) (fnA f ds cs) := by
  unfold fnA
  cases Nat.blt f bnd with
  | true => exact h1.append h2
  | false => exact h2.append h1

theorem evOp_wp (E : Oracle) (hE : OracleOk P E) (base : Nat) {o : Oper} {xop : XOp} {xargs : List XOpd} (hc : compOp P o.op = some (xop, xargs)) {nt : Nat} {a : Act} {T : List (Nat × DV)} (hsl : Slots lo nt O w μ h a T) (ds : List DV)
    (hT : mapO (XOpd.eval T) xargs = some ds) (r : Res) (hr : evOp E base xop ds h n = some r) (hn : r.al ≠ [] → h n = none) (hI : HInv w O μ h) {next : Act → World → Prop} {Q : Exit → Act → World → Prop}
    (hk : ∀ v w' μ', RepV w' O μ' (upd h n r) v r.val → HInv w' O μ' (upd h n r) → Mono O w μ h w' μ' (upd h n r) → next (a.put o.dst v) w') : o.wp P a w next Q := by
  have hev := fun x xo d => hsl.eval x xo d
  have enter : ∀ (f : Nat) (vs : List Value) (dv : List DV), (execOp a.eval o).run P w = .ok (.enter f vs.toArray) w → All2 (RepV w O μ h) vs dv → evPure E h f dv = some r → o.wp P a w next Q := by
    intro f vs dv hrun hall hp
    unfold Oper.wp
    rw [hrun, Oper.upon_enter]
    refine (call_pure (n := n) E f (fun ps r' h' => (hE.pure f ps r' h').1) vs dv hall r hp hI).mono fun e w' ⟨v, he, h1, h2, h3⟩ => ?_
    subst he
    exact hk v w' μ h1 h2 h3
  have ent : ∀ f dv, evPure E h f dv = some r → Ent P f := by
    intro f dv hp
    unfold evPure at hp
    split at hp
    · split at hp
      · split at hp
        · rename_i ps _ r' hr'
          exact (hE.pure f _ _ hr').2
        · simp at hp
      · simp at hp
    · simp at hp
  by_cases hcall : (∃ f, xop = .call f) ∨ xop = .callV
  · have hx2 : isCallX xop = true := by
      rcases hcall with ⟨f, rfl⟩ | rfl <;> rfl
    obtain ⟨c, hop⟩ := compOp_call hc hx2
    · obtain ⟨callee, args, tys⟩ := c
      simp only [compOp, hop] at hc
      cases hxs : compOpds args with
      | none => simp [hxs] at hc
      | some xs =>
      simp only [hxs] at hc
      have hargs : ∀ ds, mapO (XOpd.eval T) xs = some ds → All2 (RepV w O μ h) (args.toList.map a.eval) ds := fun ds hds => all2_map a.eval (map_all2 (fun p => p) T a.eval hev _ _ _ hxs hds)
      have viaV : ∀ x x', compOpd x = some x' → xop = .callV → xargs = x' :: xs → o.op = .call ⟨.value x, args, tys⟩ → o.wp P a w next Q := by
        intro x x' hx hxo hxa ho
        subst hxo; subst hxa
        obtain ⟨d, ds', hd, hds', rfl⟩ := map_cons hT
        have hxr := hev _ _ _ hx hd
        have ha := hargs ds' hds'
        simp only [evOp] at hr
        unfold opCallV at hr
        split at hr
        · rename_i f caps vs heq
          simp only [List.cons.injEq] at heq; obtain ⟨rfl, rfl⟩ := heq
          have hxr' : RepD w O μ h (a.eval x) (.p (.fn f caps)) := hxr
          generalize hv : a.eval x = v at hxr'
          cases hxr' with
          | p _ _ hp => cases hp with
            | fn _ _ cv hl hcap =>
              refine enter (fnF f) _ _ (run_callv x args tys ho f cv hv (ent _ _ hr)) (fnA_all2 f ha ?_) hr
              refine All2.of_get (by simpa using hl) fun i u y hu hy => ?_
              rw [List.getElem?_map] at hy
              cases hcc : caps[i]? with
              | none => simp [hcc] at hy
              | some l => simp only [hcc, Option.map_some, Option.some.injEq] at hy; subst hy; exact RepD.p _ _ (hcap i l u hcc hu)
        · rename_i f caps vs heq
          simp only [List.cons.injEq] at heq; obtain ⟨rfl, rfl⟩ := heq
          have hxr' : RepD w O μ h (a.eval x) (.fn f caps) := hxr
          generalize hv : a.eval x = v at hxr'
          cases hxr' with
          | fn _ _ cv hl hcap =>
            refine enter (fnF f) _ _ (run_callv x args tys ho f cv hv (ent _ _ hr)) (fnA_all2 f ha ?_) hr
            refine All2.of_get (by simpa using hl) fun i u y hu hy => ?_
            rw [List.getElem?_map] at hy
            cases hcc : caps[i]? with
            | none => simp [hcc] at hy
            | some l => simp only [hcc, Option.map_some, Option.some.injEq] at hy; subst hy; exact hcap i l u hcc hu
        · simp at hr
      cases callee with
      | invoke _ _ => simp at hc
      | builtin b =>
        simp only at hc
        cases hb : compBuiltin P b tys with
        | none => simp [hb] at hc
        | some op =>
          simp only [hb, Option.some.injEq, Prod.mk.injEq] at hc
          obtain ⟨rfl, rfl⟩ := hc
          exact wp_of_sim (builtin_sim E base b tys args o hop op hb a.eval ds (map_all2 (fun p => p) T a.eval hev _ _ _ hxs hT) r hr hn hI) hk
      | value x =>
        cases x with
        | func f =>
          simp only [Option.some.injEq, Prod.mk.injEq] at hc
          obtain ⟨rfl, rfl⟩ := hc
          simp only [evOp] at hr
          exact enter f _ ds (run_callf (P := P) (w := w) (a := a) args tys f hop (ent f _ hr)) (hargs ds hT) hr
        | tmp q =>
          simp only [compOpd, Option.some.injEq, Prod.mk.injEq] at hc
          exact viaV (.tmp q) (.t q) rfl hc.1.symm hc.2.symm hop
        | const q =>
          simp only at hc
          cases hq : compOpd (.const q) with
          | none => simp [hq] at hc
          | some q' =>
            simp only [hq, Option.some.injEq, Prod.mk.injEq] at hc
            exact viaV (.const q) q' hq hc.1.symm hc.2.symm hop
        | global q => simp [compOpd] at hc
  · exact wp_of_sim (evOp_sim E base hc T a.eval hev ds hT r hr (fun f e => hcall (.inl ⟨f, e⟩)) (fun e => hcall (.inr e)) hn hI) hk

end
end Go.Ev
