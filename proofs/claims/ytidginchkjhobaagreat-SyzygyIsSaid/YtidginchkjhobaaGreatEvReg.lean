/- Regions in the order of the text. -/
import Derived.Test.YtidginchkjhobaaGreatEvSeq
import Derived.OrdersIn
import Derived.TacticsIn
import Derived.LoopNIn
import Derived.RangeFuncCalls
import Derived.RangeFuncLeaves
namespace Go.Ev
open Go.RowKit

theorem setK_eq {α β : Type} : ∀ (l : List α) (n : Nat) (v : α) (k : List α → β), setK l n v k = k (l.set n v)
  | [], _, _, _ => rfl
  | _ :: _, 0, _, _ => rfl
  | x :: xs, n + 1, v, k => by simp only [setK]; rw [setK_eq xs n v]; rfl
theorem appK_eq {α β : Type} : ∀ (l m : List α) (k : List α → β), appK l m k = k (l ++ m)
  | [], _, _ => rfl
  | x :: xs, m, k => by simp only [appK]; rw [appK_eq xs m]; rfl
theorem natK_eq {β : Type} (n : Nat) (k : Nat → β) : natK n k = k n := by cases n <;> rfl
theorem intK_eq {β : Type} (n : Int) (k : Int → β) : intK n k = k n := by cases n <;> simp [intK, natK_eq]
theorem leafK_eq {β : Type} (l : DL) (k : DL → β) : leafK l k = k l := by
  unfold leafK
  split
  · rw [intK_eq]
  · rename_i b; cases b <;> rfl
  · simp [natK_eq]
  · simp [natK_eq]
  · rfl
theorem leavesK_eq {β : Type} : ∀ (l : List DL) (k : List DL → β), leavesK l k = k l
  | [], _ => rfl
  | x :: xs, k => by simp only [leavesK]; rw [leafK_eq, leavesK_eq xs]
theorem valK_eq {β : Type} (v : DV) (k : DV → β) : valK v k = k v := by
  cases v with
  | one l => simp [valK, leafK_eq]
  | agg cs => simp [valK, leavesK_eq]
  | tup vs => rfl
theorem putK_eq {β : Type} (T : List (Nat × DV)) (dst : Option Nat) (v : DV) (k : List (Nat × DV) → β) : putK T dst v k = k (putT T dst v) := by cases dst <;> rfl
theorem wrK_eq {β : Type} : ∀ (ws : List (Nat × Blk)) (H : List Blk) (k : List Blk → β), wrK H ws k = k (applyWr H ws)
  | [], _, _ => rfl
  | (id, b) :: ws, H, k => by simp only [wrK, applyWr]; rw [setK_eq, wrK_eq ws]
theorem alK_eq {β : Type} (H al : List Blk) (k : List Blk → β) : alK H al k = k (addAl H al) := by
  cases al with
  | nil => rfl
  | cons x xs => simp only [alK, addAl]; rw [appK_eq]

theorem HFof_set (H : List Blk) (id : Nat) (b : Blk) (hid : id < H.length) : HFof (H.set id b) = fun x => if x = id then some b else HFof H x := by
  funext x
  simp only [HFof, List.getElem?_set]
  by_cases e : x = id
  · subst e; simp [hid]
  · simp [e, Ne.symm e]

theorem HFof_wr : ∀ (ws : List (Nat × Blk)) (H : List Blk), (∀ q ∈ ws, q.1 < H.length) → HFof (applyWr H ws) = updWr (HFof H) ws ∧ (applyWr H ws).length = H.length
  | [], _, _ => ⟨rfl, rfl⟩
  | (id, b) :: ws, H, hw => by
    have hid := hw (id, b) (by simp)
    obtain ⟨h1, h2⟩ := HFof_wr ws (H.set id b) (fun q hq => by simpa using hw q (by simp [hq]))
    refine ⟨?_, by simp only [applyWr]; rw [h2]; simp⟩
    simp only [applyWr, updWr]
    rw [h1, HFof_set H id b hid]

theorem HFof_al : ∀ (al H : List Blk), HFof (H ++ al) = updAl (HFof H) H.length al
  | [], H => by simp [updAl]
  | b :: bs, H => by
    have := HFof_al bs (H ++ [b])
    rw [List.append_assoc, List.singleton_append] at this
    rw [this]
    simp only [updAl, List.length_append, List.length_singleton]
    congr 1
    funext x
    simp only [HFof, List.getElem?_append]
    by_cases e : x = H.length
    · subst e; simp
    · by_cases e2 : x < H.length
      · simp [e, e2]
      · simp only [e, e2, if_false]
        rw [List.getElem?_eq_none (by simp; omega), List.getElem?_eq_none (by omega)]

theorem addAl_eq (H al : List Blk) : addAl H al = H ++ al := by cases al <;> simp [addAl]

/-- What an operation writes was there. -/
theorem evOp_wr (E : Oracle) (base : Nat) (op : XOp) (vs : List DV) (h : HF) (n : Nat) (r : Res) (hr : evOp E base op vs h n = some r) : ∀ q ∈ r.wr, ∃ b, h q.1 = some b := by
  have pure : ∀ f dv, evPure E h f dv = some r → ∀ q ∈ r.wr, ∃ b, h q.1 = some b := by
    intro f dv hp
    unfold evPure at hp
    split at hp
    · split at hp
      · split at hp
        · simp only [Bool.cond_eq_ite] at hp
          split at hp <;> simp only [Option.some.injEq] at hp <;> subst hp
          · simp
          · intro q hq
            obtain ⟨id, _, hid⟩ := List.mem_filterMap.1 hq
            cases hb : h id with
            | none => simp [hb] at hid
            | some b => simp only [hb, Option.map_some, Option.some.injEq] at hid; subst hid; exact ⟨b, hb⟩
        · simp at hp
      · simp at hp
    · simp at hp
  cases op with
  | call f => exact pure f vs hr
  | callV =>
    simp only [evOp, opCallV] at hr
    split at hr
    · exact pure _ _ hr
    · exact pure _ _ hr
    · simp at hr
  | store sz =>
    simp only [evOp, opStore] at hr
    split at hr
    · split at hr
      · rename_i b hb
        split at hr
        · simp only [storeIn] at hr
          obtain ⟨_, hr⟩ := cond_or hr
          split at hr
          · obtain ⟨_, rfl⟩ := cond_some hr
            intro q hq; simp at hq; subst hq; exact ⟨b, hb⟩
          · simp at hr
        · simp at hr
      · simp at hr
    · simp at hr
  | append e sz bytes =>
    simp only [evOp, opAppend] at hr
    split at hr
    · split at hr
      · obtain ⟨_, hr⟩ := cond_or hr
        split at hr
        · simp only [appendNil] at hr
          obtain ⟨_, hr⟩ := cond_or hr
          split at hr <;> simp only [Option.some.injEq] at hr <;> subst hr <;> simp
        · split at hr
          · rename_i b hb
            rw [Bool.cond_eq_ite] at hr
            split at hr
            · simp only [appendOwn] at hr
              obtain ⟨_, rfl⟩ := cond_some hr
              intro q hq; simp at hq; subst hq; exact ⟨b, hb⟩
            · simp only [appendIn] at hr
              obtain ⟨_, rfl⟩ := cond_some hr
              intro q hq; simp at hq; subst hq; exact ⟨b, hb⟩
          · simp at hr
        · simp at hr
      · simp at hr
    · simp at hr
  | clear z =>
    simp only [evOp, opClear] at hr
    split at hr
    · split at hr
      · rename_i b hb
        obtain ⟨_, rfl⟩ := cond_some hr
        intro q hq; simp at hq; subst hq; exact ⟨b, hb⟩
      · simp at hr
    · simp at hr
  | copy _ => simp [evOp] at hr
  | lookup klen k agg z ok =>
    have hnil : r.wr = [] := by
      simp only [evOp, opLookup, lookIn, Bool.cond_eq_ite] at hr
      (repeat' split at hr) <;> simp only [Option.some.injEq, reduceCtorEq] at hr <;> subst hr <;> rfl
    rw [hnil]; simp
  | mapUpdate klen k agg vsz =>
    simp only [evOp, opMapUpdate] at hr
    split at hr
    · split at hr
      · rename_i b hb
        split at hr
        · obtain ⟨_, hr⟩ := cond_or hr
          unfold updIn at hr
          split at hr <;> simp only [Option.some.injEq, reduceCtorEq] at hr <;> subst hr <;> (intro q hq; simp at hq; subst hq; exact ⟨b, hb⟩)
        · simp at hr
      · simp at hr
    · simp at hr
  | _ =>
    have hnil : r.wr = [] := by
      simp only [evOp, opMove, opNilCheck, opPick, opBox, opAlloc, opBuild, opBuildSlice, opLoad, opBin, opBinB, opBinNil, opBinAgg, opUn, opConv, opFieldAddr, opIndexS, opIndexA, opIndexStr, opIndexV, opField, opSlice, opExtract, opLen, opLenA, opMakeSlice, opMax, opMakeFunc, opMakeMap, opLenMap, opSlice3, Bool.cond_eq_ite] at hr
      (repeat' split at hr) <;> simp only [Option.some.injEq, reduceCtorEq] at hr <;> subst hr <;> rfl
    rw [hnil]; simp

section
variable {lo : Nat} {P : Program} {O : BS} {w : World} {μ : Nat → Nat} {n : Nat}

theorem guard_ok {nt : Nat} {h : HF} {a : Act} {T : List (Nat × DV)} (hsl : Slots lo nt O w μ h a T) (ops : List Oper) (g : Option (Nat × Bool)) (g' : Option (Nat × Bool)) (hg : compGuard ops g = some g') (b : Bool) (hb : guardOk T g' = some b) (o : Oper) (ho : o.guard = g) :
    Region.wanted o (yielded ops.toArray a.tmps) = b := by
  cases g with
  | none =>
    simp only [compGuard, Option.some.injEq] at hg; subst hg
    simp only [guardOk, Option.some.injEq] at hb; subst hb
    simp [Region.wanted, ho]
  | some q =>
    obtain ⟨j, want⟩ := q
    simp only [compGuard] at hg
    cases hj : ops[j]? with
    | none => simp [hj] at hg
    | some go =>
    simp only [hj] at hg
    cases hd : go.dst with
    | none => simp [hd] at hg
    | some d =>
    simp only [hd, Option.some.injEq] at hg; subst hg
    simp only [guardOk] at hb
    have hy : yielded ops.toArray a.tmps j = match a.tmps[d]? with | some (.bool c) => some c | _ => none := by
      simp [yielded, hj, hd]; rfl
    simp only [Region.wanted, ho, hy]
    split at hb
    · rename_i c hc
      simp only [Option.some.injEq] at hb; subst hb
      have := (hsl.slot d _ hc).inv_bool
      rw [Array.getD_eq_getD_getElem?] at this
      cases hq : a.tmps[d]? with
      | none => rw [hq] at this; simp [undef] at this
      | some u => rw [hq] at this; simp at this; subst this; simp
    · rename_i hc
      simp only [Option.some.injEq] at hb; subst hb
      obtain ⟨xs, hx, hn⟩ := hsl.slot d _ hc
      cases hn
      rw [Array.getD_eq_getD_getElem?] at hx
      cases hq : a.tmps[d]? with
      | none => simp
      | some u => rw [hq] at hx; simp at hx; subst hx; simp
    · simp at hb

/-- One operation in its turn, over a list of blocks. -/
theorem evOper_wp (E : Oracle) (hE : OracleOk P E) (base : Nat) (heap : Bool) {nt : Nat} (ops : List Oper) {o : Oper} {xo : XOper} (hc : compOper P nt ops o = some xo) {a : Act} {s s' : St} {rd wr : List Nat}
    (hr : evOper E base heap xo s = some (s', rd, wr)) (hI : HInv w O μ (HFof s.H)) (hsl : Slots lo nt O w μ (HFof s.H) a s.T) {next : Act → World → Prop} {Q : Exit → Act → World → Prop}
    (hk : ∀ a' w' μ', HInv w' O μ' (HFof s'.H) → Slots lo nt O w' μ' (HFof s'.H) a' s'.T → Mono O w μ (HFof s.H) w' μ' (HFof s'.H) → next a' w') :
    (Region.wanted o (yielded ops.toArray a.tmps) = true ∧ o.wp P a w next Q) ∨ (Region.wanted o (yielded ops.toArray a.tmps) = false ∧ next (a.put o.dst undef) w) := by
  unfold compOper at hc
  cases hop : compOp P o.op with
  | none => simp [hop] at hc
  | some q =>
  obtain ⟨op, args⟩ := q
  simp only [hop] at hc
  cases hg : compGuard ops o.guard with
  | none => simp [hg] at hc
  | some g =>
  simp only [hg] at hc
  split at hc <;> simp only [Option.some.injEq, reduceCtorEq] at hc
  rename_i hdst
  subst hc
  unfold evOper at hr
  simp only at hr
  cases hgo : guardOk s.T g with
  | none => simp [hgo] at hr
  | some b =>
  have hwant := guard_ok hsl ops o.guard g hg b hgo o rfl
  cases b with
  | false =>
    simp only [hgo, putK_eq, Option.some.injEq, Prod.mk.injEq] at hr
    obtain ⟨rfl, _, _⟩ := hr
    right
    exact ⟨hwant, hk _ w μ hI (hsl.put o.dst hdst undef (.tup []) ⟨[], rfl, .nil⟩) (Mono.refl _ _ _ _)⟩
  | true =>
    simp only [hgo] at hr
    left
    refine ⟨hwant, ?_⟩
    cases hT : mapO (XOpd.eval s.T) args with
    | none => simp [hT] at hr
    | some ds =>
    simp only [hT] at hr
    cases hh : (heap && isHeapOp E op ds) with
    | false =>
      simp only [hh, cond_false] at hr
      cases hev : evOp E base op ds (HFof s.H) s.H.length with
      | none => simp [hev] at hr
      | some r =>
      simp only [hev, finishOp, valK_eq, putK_eq, wrK_eq, alK_eq, Option.some.injEq, Prod.mk.injEq] at hr
      obtain ⟨rfl, _, _⟩ := hr
      have hwr := evOp_wr E base op ds _ _ r hev
      obtain ⟨hw1, hw2⟩ := HFof_wr r.wr s.H (fun q hq => by
        obtain ⟨b, hb⟩ := hwr q hq
        simp only [HFof] at hb
        exact (List.getElem?_eq_some_iff.1 hb).1)
      have hH : HFof (addAl (applyWr s.H r.wr) r.al) = upd (HFof s.H) s.H.length r := by
        rw [addAl_eq, HFof_al, hw1, hw2]; rfl
      refine evOp_wp E hE base hop hsl ds hT r hev (fun _ => by simp [HFof]) hI fun v w' μ' h1 h2 h3 => ?_
      rw [← hH] at h1 h2 h3
      exact hk _ w' μ' h2 ((hsl.mono h3).put o.dst hdst v r.val h1) h3
    | true =>
      simp only [hh, cond_true, heapCall] at hr
      rw [Bool.and_eq_true] at hh
      have fin : ∀ (f : Nat) (vs : List Value) (dv : List DV), (Ent P f → (execOp a.eval o).run P w = .ok (.enter f vs.toArray) w) → All2 (RepV w O μ (HFof s.H)) vs dv → evHeapCall E o.dst f dv s = some (s', rd, wr) → o.wp P a w next Q := by
        intro f vs dv hrun hall hr
        unfold evHeapCall at hr
        cases hm : E.mode f with
        | pure => simp [hm] at hr
        | heap =>
          simp only [hm] at hr
          cases he : E.heap f dv s.H with
          | none => simp [he] at hr
          | some q =>
          obtain ⟨v, H2⟩ := q
          simp only [he, putK_eq, Option.some.injEq, Prod.mk.injEq] at hr
          obtain ⟨rfl, _, _⟩ := hr
          obtain ⟨hch, hent⟩ := hE.heap f dv s.H v H2 he
          unfold Oper.wp
          rw [hrun hent, Oper.upon_enter]
          refine (hch w O μ _ hI hall).mono fun e w' ⟨u, μ', he, h1, h2, h3⟩ => ?_
          subst he
          exact hk _ w' μ' h2 ((hsl.mono h3).put o.dst hdst u v h1) h3
      have hx2 : isCallX op = true := by
        have := hh.2
        unfold isHeapOp at this
        split at this
        · rfl
        · rfl
        · simp at this
      obtain ⟨c, hoc⟩ := compOp_call hop hx2
      obtain ⟨callee, cargs, tys⟩ := c
      rw [hoc] at hop
      simp only [compOp] at hop
      cases hxs : compOpds cargs with
      | none => simp [hxs] at hop
      | some xs =>
      simp only [hxs] at hop
      have hargs : ∀ ds, mapO (XOpd.eval s.T) xs = some ds → All2 (RepV w O μ (HFof s.H)) (cargs.toList.map a.eval) ds := fun ds hds => all2_map a.eval (map_all2 (fun p => p) s.T a.eval (fun x xo d => hsl.eval x xo d) _ _ _ hxs hds)
      have viaV : ∀ x x', compOpd x = some x' → op = .callV → args = x' :: xs → o.op = .call ⟨.value x, cargs, tys⟩ → o.wp P a w next Q := by
        intro x x' hx hxo hxa ho
        subst hxo; subst hxa
        obtain ⟨d, ds', hd, hds', rfl⟩ := map_cons hT
        have hxr := hsl.eval _ _ _ hx hd
        have ha := hargs ds' hds'
        simp only at hr
        split at hr
        · rename_i f caps vs heq
          simp only [List.cons.injEq] at heq; obtain ⟨rfl, rfl⟩ := heq
          have hxr' : RepD w O μ (HFof s.H) (a.eval x) (.p (.fn f caps)) := hxr
          generalize hv : a.eval x = v at hxr'
          cases hxr' with
          | p _ _ hp => cases hp with
            | fn _ _ cv hl hcap =>
              refine fin (fnF f) _ _ (fun he => run_callv x cargs tys ho f cv hv he) (fnA_all2 f ha ?_) hr
              refine All2.of_get (by simpa using hl) fun i u y hu hy => ?_
              rw [List.getElem?_map] at hy
              cases hcc : caps[i]? with
              | none => simp [hcc] at hy
              | some l => simp only [hcc, Option.map_some, Option.some.injEq] at hy; subst hy; exact RepD.p _ _ (hcap i l u hcc hu)
        · rename_i f caps vs heq
          simp only [List.cons.injEq] at heq; obtain ⟨rfl, rfl⟩ := heq
          have hxr' : RepD w O μ (HFof s.H) (a.eval x) (.fn f caps) := hxr
          generalize hv : a.eval x = v at hxr'
          cases hxr' with
          | fn _ _ cv hl hcap =>
              refine fin (fnF f) _ _ (fun he => run_callv x cargs tys ho f cv hv he) (fnA_all2 f ha ?_) hr
              refine All2.of_get (by simpa using hl) fun i u y hu hy => ?_
              rw [List.getElem?_map] at hy
              cases hcc : caps[i]? with
              | none => simp [hcc] at hy
              | some l => simp only [hcc, Option.map_some, Option.some.injEq] at hy; subst hy; exact hcap i l u hcc hu
        · simp at hr
      cases callee with
      | invoke _ _ => simp at hop
      | builtin b =>
        simp only at hop
        cases hb : compBuiltin P b tys with
        | none => simp [hb] at hop
        | some bop =>
          simp only [hb, Option.some.injEq, Prod.mk.injEq] at hop
          obtain ⟨rfl, _⟩ := hop
          exfalso
          unfold compBuiltin at hb
          (repeat' split at hb) <;> simp only [Option.some.injEq, reduceCtorEq] at hb <;> subst hb <;> simp [isCallX] at hx2
      | value x =>
        cases x with
        | func g =>
          simp only [Option.some.injEq, Prod.mk.injEq] at hop
          obtain ⟨rfl, rfl⟩ := hop
          exact fin g _ ds (fun he => run_callf cargs tys g hoc he) (hargs ds hT) hr
        | tmp q =>
          simp only [compOpd, Option.some.injEq, Prod.mk.injEq] at hop
          exact viaV (.tmp q) (.t q) rfl hop.1.symm hop.2.symm hoc
        | const q =>
          simp only at hop
          cases hq : compOpd (.const q) with
          | none => simp [hq] at hop
          | some q' =>
            simp only [hq, Option.some.injEq, Prod.mk.injEq] at hop
            exact viaV (.const q) q' hq hop.1.symm hop.2.symm hoc
        | global q => simp [compOpd] at hop

/-- The two fences: none, and a round of a loop over a function. -/
def FenceOk (F : Fence) : Prop := F = Fence.wide ∨ ∃ l, F = Fence.wide.inRound l

theorem FenceOk.fn {F : Fence} (hF : FenceOk F) (f : FuncId) : F.fn f := by rcases hF with rfl | ⟨l, rfl⟩ <;> trivial
theorem FenceOk.depth {F : Fence} (hF : FenceOk F) : F.depth.isSome = false := by rcases hF with rfl | ⟨l, rfl⟩ <;> rfl
theorem FenceOk.calls {F : Fence} (hF : FenceOk F) {n : Nat} {f : FuncId} {args : Array Value} {w : World} {R : Ending → World → Prop} (h : Calls P f args w R) : CallsIn F n P f args w R := by
  rcases hF with rfl | ⟨l, rfl⟩
  · exact callsIn_wide.2 h
  · exact CallsIn.inRound l (callsIn_wide.2 h)
theorem FenceOk.rows {F : Fence} (hF : FenceOk F) {n : Nat} {row : String} {args : Array Value} {w : World} {R : Value → World → Prop} (h : Rows P row args w R) : RowsIn F n P row args w R := by
  intro c cs _
  obtain ⟨v, w', r, s⟩ := h c cs
  rcases hF with rfl | ⟨l, rfl⟩
  · exact ⟨v, w', r, stepsIn_wide.2 s⟩
  · exact ⟨v, w', r, stepsIn_wide.2 s⟩

theorem compOp_nodefer {op : Op} {q : XOp × List XOpd} (h : compOp P op = some q) : ∀ c, op ≠ .defer c := by
  intro c e; subst e; simp [compOp] at h

theorem oper_in {F : Fence} (hF : FenceOk F) {n : Nat} {o : Oper} {a : Act} {next : Act → World → Prop} {Q : Exit → Act → World → Prop} (hnd : ∀ c, o.op ≠ .defer c) (h : o.wp P a w next Q) : o.wpIn F n P a w next Q := by
  refine ⟨fun f _ => hF.fn f, ?_⟩
  rw [Oper.semAt_eq _ _ _ hnd]
  unfold Oper.wp at h
  generalize (execOp a.eval o).run P w = r at h ⊢
  cases r with
  | ok nx w' => cases nx with
    | enter f args => exact ⟨by rw [hF.depth]; simp, hF.calls h⟩
    | row r args => exact ⟨by rw [hF.depth]; simp, hF.rows h⟩
    | round l f tmps as bd => exact absurd h (fun h => h)
    | _ => exact h
  | halt x w' => cases x <;> exact h

/-- A region in the order of the text. -/
theorem evOps_wp (E : Oracle) (hE : OracleOk P E) {F : Fence} (hF : FenceOk F) (n base : Nat) {nt : Nat} (ops : List Oper) {Q : Exit → Act → World → Prop} : ∀ (l : List Oper) (xl : List XOper), mapO (compOper P nt ops) l = some xl → ∀ (s s' : St) (a : Act) (w : World) (μ : Nat → Nat), evOps E base xl s = some s' →
    HInv w O μ (HFof s.H) → Slots lo nt O w μ (HFof s.H) a s.T →
    (∀ a' w' μ', HInv w' O μ' (HFof s'.H) → Slots lo nt O w' μ' (HFof s'.H) a' s'.T → Mono O w μ (HFof s.H) w' μ' (HFof s'.H) → Q .normal a' w') → wpListIn F n P ops.toArray Q l a w
  | [], xl, hx, s, s', a, w, μ, hr, hI, hsl, hk => by
    rw [map0 hx] at hr
    simp only [evOps, Option.some.injEq] at hr; subst hr
    exact hk a w μ hI hsl (Mono.refl _ _ _ _)
  | o :: l, xl, hx, s, s', a, w, μ, hr, hI, hsl, hk => by
    obtain ⟨xo, xl', hxo, hxl, rfl⟩ := map_cons hx
    simp only [evOps] at hr
    cases he : evOper E base true xo s with
    | none => simp [he] at hr
    | some q =>
    obtain ⟨s1, rd, wr⟩ := q
    simp only [he] at hr
    have := evOper_wp (O := O) (w := w) (μ := μ) E hE base true ops hxo he hI hsl (next := wpListIn F n P ops.toArray Q l) (Q := Q) fun a' w' μ' h1 h2 h3 =>
      evOps_wp E hE hF n base ops l xl' hxl s1 s' a' w' μ' hr h1 h2 fun a2 w2 μ2 g1 g2 g3 => hk a2 w2 μ2 g1 g2 (h3.trans g3)
    have hnd : ∀ c, o.op ≠ .defer c := by
      unfold compOper at hxo
      cases hop : compOp P o.op with
      | none => simp [hop] at hxo
      | some q => exact compOp_nodefer hop
    unfold wpListIn
    rcases this with ⟨h1, h2⟩ | ⟨h1, h2⟩
    · rw [if_pos h1]; exact oper_in hF hnd h2
    · rw [if_neg (by rw [h1]; simp)]; exact ⟨fun f _ => hF.fn f, h2⟩

end
end Go.Ev
