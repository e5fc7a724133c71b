/- Operations that leave the heap alone: what the model computes stands for what the interpreter computes. -/
import Derived.Test.YtidginchkjhobaaGreatEvArith
import Derived.ChangeKeysEq
namespace Go.Ev

def updWr (h : HF) : List (Nat × Blk) → HF
  | [] => h
  | (id, b) :: ws => updWr (fun x => if x = id then some b else h x) ws

def updAl (h : HF) (n : Nat) : List Blk → HF
  | [] => h
  | b :: bs => updAl (fun x => if x = n then some b else h x) (n + 1) bs

def upd (h : HF) (n : Nat) (r : Res) : HF := updAl (updWr h r.wr) n r.al

/-- What an operation came to stands for the interpreter's result. -/
def Sim1 (O : BS) (w : World) (μ : Nat → Nat) (h : HF) (n : Nat) (res : Result Next) (r : Res) : Prop :=
  ∃ v w' μ', (res = .ok (.value v) w' ∨ (res = .ok .skip w' ∧ v = undef)) ∧ RepV w' O μ' (upd h n r) v r.val ∧ HInv w' O μ' (upd h n r) ∧ Mono O w μ h w' μ' (upd h n r)

section
variable {P : Program} {O : BS} {w : World} {μ : Nat → Nat} {h : HF} {n : Nat}

theorem exec_v {s : Sem Value} {v : Value} {w' : World} (hs : s.run P w = .ok v w') : (do pure (Next.value (← s)) : Sem Next).run P w = .ok (.value v) w' := by
  simp [Sem.run_bind, hs, Result.andThen, Sem.run, pure]

theorem sim_pure {v : Value} {d : DV} {res : Result Next} (hI : HInv w O μ h) (hr : res = .ok (.value v) w) (hv : RepV w O μ h v d) : Sim1 O w μ h n res (.pure d) :=
  ⟨v, w, μ, .inl hr, hv, hI, Mono.refl _ _ _ _⟩

theorem sim_read {v : Value} {d : DV} {rd : List Nat} {res : Result Next} (hI : HInv w O μ h) (hr : res = .ok (.value v) w) (hv : RepV w O μ h v d) : Sim1 O w μ h n res ⟨d, [], [], rd⟩ :=
  ⟨v, w, μ, .inl hr, hv, hI, Mono.refl _ _ _ _⟩

/-! ### inversions -/

theorem RepV.inv_int {v : Value} {k : IntKind} {a : Int} (r : RepV w O μ h v (.one (.p (.int k a)))) : v = .int k a := by
  have r : RepD w O μ h v (.p (.int k a)) := r
  cases r with | p _ _ hp => cases hp; rfl
theorem RepV.inv_bool {v : Value} {b : Bool} (r : RepV w O μ h v (.one (.p (.bool b)))) : v = .bool b := by
  have r : RepD w O μ h v (.p (.bool b)) := r
  cases r with | p _ _ hp => cases hp; rfl
theorem RepV.inv_nil {v : Value} (r : RepV w O μ h v (.one (.p .nilS))) : v = .slice none 0 0 := by
  have r : RepD w O μ h v (.p .nilS) := r
  cases r with | p _ _ hp => cases hp; rfl

theorem RepV.int (k : IntKind) (a : Int) : RepV w O μ h (.int k a) (.one (.p (.int k a))) := RepD.p _ _ (.int k a)
theorem RepV.bool (b : Bool) : RepV w O μ h (.bool b) (.one (.p (.bool b))) := RepD.p _ _ (.bool b)

/-! ### arithmetic -/

theorem run_eqGuard_int (op : BinOp) (t : TypeId) (x y : Operand) (k k' : IntKind) (a b : Int) : (eqGuard op t x y (.int k a) (.int k' b)).run P w = .ok () w := by
  cases op <;> simp [eqGuard, go_sem]
theorem run_eqGuard_bool (op : BinOp) (t : TypeId) (x y : Operand) (a b : Bool) : (eqGuard op t x y (.bool a) (.bool b)).run P w = .ok () w := by
  cases op <;> simp [eqGuard, go_sem]
theorem run_eqGuard_slice (op : BinOp) (t : TypeId) (x y : Operand) (p q : Option Addr) (a b c d : Nat) : (eqGuard op t x y (.slice p a b) (.slice q c d)).run P w = .ok () w := by
  cases op <;> simp [eqGuard, go_sem]

theorem evBinI_run (op : BinOp) (t : TypeId) (k k' : IntKind) (a b : Int) (d : DL) (hd : evBinI op k k' a b = some d) :
    ∃ l, d = .p l ∧ ∃ v, (binOp op t (.int k a) (.int k' b)).run P w = .ok v w ∧ RepP w (Live O μ h) v l := by
  cases op with
  | shl =>
    simp only [evBinI] at hd
    cases b with
    | negSucc m => simp [binShl] at hd
    | ofNat m =>
      simp only [binShl, dInt, Option.some.injEq] at hd; subst hd
      refine ⟨_, rfl, .int k (k.wrap (a * 2 ^ (min m k.bits))), ?_, ?_⟩
      · simp [binOp, Op.shift, go_sem]
      · rw [wrapF_eq, kbits_eq]
        have : Int.ofNat (2 ^ Nat.min m k.bits) = (2 : Int) ^ (min m k.bits) := by simp
        rw [this]; exact .int _ _
  | shr =>
    simp only [evBinI] at hd
    cases b with
    | negSucc m => simp [binShr] at hd
    | ofNat m =>
      simp only [binShr, dInt, Option.some.injEq] at hd; subst hd
      refine ⟨_, rfl, .int k (a.fdiv (2 ^ (min m k.bits))), ?_, ?_⟩
      · simp [binOp, Op.shift, go_sem]
      · rw [shrF_eq, kbits_eq]; exact .int _ _
  | quo =>
    simp only [evBinI, sameK, binQuo, dInt] at hd
    cases hk : keq k k' <;> simp only [hk, cond_true, cond_false, reduceCtorEq] at hd
    have hk' := (keq_iff _ _).1 hk; subst hk'
    cases hz : eqF b 0 <;> simp only [hz, cond_true, cond_false, reduceCtorEq, Option.some.injEq] at hd
    subst hd
    rw [eqF_eq] at hz
    have hz' : b ≠ 0 := by simpa using hz
    refine ⟨_, rfl, .int k (k.wrap (a.tdiv b)), ?_, ?_⟩
    · simp [binOp, Op.intDiv, go_sem, hz']
    · rw [wrapF_eq]; exact .int _ _
  | rem =>
    simp only [evBinI, sameK, binRem, dInt] at hd
    cases hk : keq k k' <;> simp only [hk, cond_true, cond_false, reduceCtorEq] at hd
    have hk' := (keq_iff _ _).1 hk; subst hk'
    cases hz : eqF b 0 <;> simp only [hz, cond_true, cond_false, reduceCtorEq, Option.some.injEq] at hd
    subst hd
    rw [eqF_eq] at hz
    have hz' : b ≠ 0 := by simpa using hz
    refine ⟨_, rfl, .int k (a.tmod b), ?_, .int _ _⟩
    simp [binOp, Op.intDiv, go_sem, hz']
  | add =>
    simp only [evBinI, sameK, dInt] at hd
    cases hk : keq k k' <;> simp only [hk, cond_true, cond_false, reduceCtorEq, Option.some.injEq] at hd
    have hk' := (keq_iff _ _).1 hk; subst hk'; subst hd
    exact ⟨_, rfl, _, by simp [binOp, Op.intArith, wrapF_eq], .int _ _⟩
  | sub =>
    simp only [evBinI, sameK, dInt] at hd
    cases hk : keq k k' <;> simp only [hk, cond_true, cond_false, reduceCtorEq, Option.some.injEq] at hd
    have hk' := (keq_iff _ _).1 hk; subst hk'; subst hd
    exact ⟨_, rfl, _, by simp [binOp, Op.intArith, wrapF_eq], .int _ _⟩
  | mul =>
    simp only [evBinI, sameK, dInt] at hd
    cases hk : keq k k' <;> simp only [hk, cond_true, cond_false, reduceCtorEq, Option.some.injEq] at hd
    have hk' := (keq_iff _ _).1 hk; subst hk'; subst hd
    exact ⟨_, rfl, _, by simp [binOp, Op.intArith, wrapF_eq], .int _ _⟩
  | and =>
    simp only [evBinI, sameK, dInt] at hd
    cases hk : keq k k' <;> simp only [hk, cond_true, cond_false, reduceCtorEq, Option.some.injEq] at hd
    have hk' := (keq_iff _ _).1 hk; subst hk'; subst hd
    exact ⟨_, rfl, _, by rw [and_eq]; simp only [binOp, ne_eq, not_true_eq_false, if_false, Op.intBits]; rfl, .int _ _⟩
  | or =>
    simp only [evBinI, sameK, dInt] at hd
    cases hk : keq k k' <;> simp only [hk, cond_true, cond_false, reduceCtorEq, Option.some.injEq] at hd
    have hk' := (keq_iff _ _).1 hk; subst hk'; subst hd
    exact ⟨_, rfl, _, by rw [or_eq]; simp only [binOp, ne_eq, not_true_eq_false, if_false, Op.intBits]; rfl, .int _ _⟩
  | xor =>
    simp only [evBinI, sameK, dInt] at hd
    cases hk : keq k k' <;> simp only [hk, cond_true, cond_false, reduceCtorEq, Option.some.injEq] at hd
    have hk' := (keq_iff _ _).1 hk; subst hk'; subst hd
    exact ⟨_, rfl, _, by rw [xor_eq]; simp only [binOp, ne_eq, not_true_eq_false, if_false, Op.intBits]; rfl, .int _ _⟩
  | andNot =>
    simp only [evBinI, sameK, dInt] at hd
    cases hk : keq k k' <;> simp only [hk, cond_true, cond_false, reduceCtorEq, Option.some.injEq] at hd
    have hk' := (keq_iff _ _).1 hk; subst hk'; subst hd
    exact ⟨_, rfl, _, by rw [andNot_eq]; simp only [binOp, ne_eq, not_true_eq_false, if_false, Op.intBits]; rfl, .int _ _⟩
  | eql =>
    simp only [evBinI, sameK, dBool] at hd
    cases hk : keq k k' <;> simp only [hk, cond_true, cond_false, reduceCtorEq, Option.some.injEq] at hd
    have hk' := (keq_iff _ _).1 hk; subst hk'; subst hd
    exact ⟨_, rfl, _, by simp [binOp, Op.intCmp, eqF_eq], .bool _⟩
  | neq =>
    simp only [evBinI, sameK, dBool] at hd
    cases hk : keq k k' <;> simp only [hk, cond_true, cond_false, reduceCtorEq, Option.some.injEq] at hd
    have hk' := (keq_iff _ _).1 hk; subst hk'; subst hd
    exact ⟨_, rfl, _, by simp [binOp, Op.intCmp, eqF_eq, bne], .bool _⟩
  | lss =>
    simp only [evBinI, sameK, dBool] at hd
    cases hk : keq k k' <;> simp only [hk, cond_true, cond_false, reduceCtorEq, Option.some.injEq] at hd
    have hk' := (keq_iff _ _).1 hk; subst hk'; subst hd
    exact ⟨_, rfl, _, by simp [binOp, Op.intCmp, ltF_eq], .bool _⟩
  | leq =>
    simp only [evBinI, sameK, dBool] at hd
    cases hk : keq k k' <;> simp only [hk, cond_true, cond_false, reduceCtorEq, Option.some.injEq] at hd
    have hk' := (keq_iff _ _).1 hk; subst hk'; subst hd
    exact ⟨_, rfl, _, by simp [binOp, Op.intCmp, leF_eq], .bool _⟩
  | gtr =>
    simp only [evBinI, sameK, dBool] at hd
    cases hk : keq k k' <;> simp only [hk, cond_true, cond_false, reduceCtorEq, Option.some.injEq] at hd
    have hk' := (keq_iff _ _).1 hk; subst hk'; subst hd
    exact ⟨_, rfl, _, by simp [binOp, Op.intCmp, ltF_eq], .bool _⟩
  | geq =>
    simp only [evBinI, sameK, dBool] at hd
    cases hk : keq k k' <;> simp only [hk, cond_true, cond_false, reduceCtorEq, Option.some.injEq] at hd
    have hk' := (keq_iff _ _).1 hk; subst hk'; subst hd
    exact ⟨_, rfl, _, by simp [binOp, Op.intCmp, leF_eq], .bool _⟩

theorem sim_bin (op : BinOp) (t u : TypeId) (x y : Operand) (ρ : Operand → Value) (o : Oper) (ho : o.op = .binOp op t x y u)
    (dx dy : DV) (hx : RepV w O μ h (ρ x) dx) (hy : RepV w O μ h (ρ y) dy) (r : Res) (hr : opBin op [dx, dy] = some r) (hI : HInv w O μ h) :
    Sim1 O w μ h n ((execOp ρ o).run P w) r := by
  unfold opBin at hr
  split at hr
  · rename_i k a k' b heq
    simp only [List.cons.injEq, and_true] at heq
    obtain ⟨rfl, rfl⟩ := heq
    cases hd : evBinI op k k' a b with
    | none => simp [hd] at hr
    | some d =>
    simp only [hd, Option.some.injEq] at hr; subst hr
    have ex := hx.inv_int; have ey := hy.inv_int
    obtain ⟨l, rfl, v, hv, hp⟩ := evBinI_run (P := P) (w := w) (O := O) (μ := μ) (h := h) op t k k' a b d hd
    refine sim_pure (v := v) hI ?_ (RepD.p _ _ hp)
    simp only [execOp, ho]
    exact exec_v (by simp [Sem.run_bind, ex, ey, run_eqGuard_int, Result.andThen, hv])
  · simp at hr

theorem sim_binB (neq : Bool) (t u : TypeId) (x y : Operand) (ρ : Operand → Value) (o : Oper) (ho : o.op = .binOp (if neq then .neq else .eql) t x y u) (ht : P.underlying t = some .bool)
    (dx dy : DV) (hx : RepV w O μ h (ρ x) dx) (hy : RepV w O μ h (ρ y) dy) (r : Res) (hr : opBinB neq [dx, dy] = some r) (hI : HInv w O μ h) :
    Sim1 O w μ h n ((execOp ρ o).run P w) r := by
  unfold opBinB at hr
  split at hr
  · rename_i a b heq
    simp only [List.cons.injEq, and_true] at heq
    obtain ⟨rfl, rfl⟩ := heq
    simp only [Option.some.injEq] at hr; subst hr
    have ex := hx.inv_bool; have ey := hy.inv_bool
    refine sim_pure (v := .bool ((a == b) != neq)) hI ?_ (RepV.bool _)
    simp only [execOp, ho]
    refine exec_v ?_
    rw [Sem.run_bind, ex, ey, run_eqGuard_bool]
    cases neq
    · simp only [Result.andThen, binOp, Sem.run_bind, run_equal_bool w t a b ht, if_false, Bool.false_eq_true]
      simp [pure]
    · simp only [Result.andThen, binOp, Sem.run_bind, run_equal_bool w t a b ht, if_true]
      simp [pure]
  · simp at hr

end
end Go.Ev

namespace Go.Ev
section
variable {P : Program} {O : BS} {w : World} {μ : Nat → Nat} {h : HF} {n : Nat}

theorem add_addr (b o k : Nat) : (⟨b, o, none⟩ : Addr).add k = ⟨b, o + k, none⟩ := by
  unfold Addr.add; split <;> simp_all

theorem RepV.inv_str {v : Value} {bs : List Nat} (r : RepV w O μ h v (.one (.p (.str bs)))) : ∃ s : ByteArray, v = .string s ∧ bs = s.data.toList.map UInt8.toNat := by
  have r : RepD w O μ h v (.p (.str bs)) := r
  cases r with | p _ _ hp => cases hp; exact ⟨_, rfl, rfl⟩

theorem RepV.inv_ref {v : Value} {cs : List PL} (r : RepV w O μ h v (.one (.p (.ref cs)))) : ∃ b off, v = .pointer (some ⟨b, off, none⟩) ∧ ∃ vals : Nat → Value, (∀ (j : Nat) (d : PL), cs[j]? = some d → ¬ Live O μ h b) ∧
    (∀ (j : Nat) (d : PL), cs[j]? = some d → w.cell? ⟨b, off + j, none⟩ = some (vals j)) ∧ (∀ (j : Nat) (d : PL), cs[j]? = some d → RepP w (Live O μ h) (vals j) d) := by
  have r : RepD w O μ h v (.p (.ref cs)) := r
  cases r with | p _ _ hp => cases hp with | ref b off _ vals ho hc hr => exact ⟨b, off, rfl, vals, ho, hc, hr⟩

theorem RepV.inv_lst {v : Value} {es : List (List PL)} (r : RepV w O μ h v (.one (.p (.lst es)))) : ∃ b off sz cap sp, v = .slice (some ⟨b, off, sp⟩) es.length cap ∧ (es = [] ∨ sp = none) ∧ es.length ≤ cap ∧
    (∀ (i : Nat) (c : List PL), es[i]? = some c → c.length = sz) ∧ ∃ vals : Nat → Nat → Value, (∀ (i : Nat) (c : List PL) (j : Nat) (d : PL), es[i]? = some c → c[j]? = some d → ¬ Live O μ h b) ∧
    (∀ (i : Nat) (c : List PL) (j : Nat) (d : PL), es[i]? = some c → c[j]? = some d → w.cell? ⟨b, off + i * sz + j, none⟩ = some (vals i j)) ∧ (∀ (i : Nat) (c : List PL) (j : Nat) (d : PL), es[i]? = some c → c[j]? = some d → RepP w (Live O μ h) (vals i j) d) := by
  have r : RepD w O μ h v (.p (.lst es)) := r
  cases r with | p _ _ hp => cases hp with | lst b off sz cap _ vals ho hcap hs hc hr hsp => exact ⟨b, off, sz, cap, _, rfl, hsp, hcap, hs, vals, ho, hc, hr⟩

theorem RepV.inv_own {v : Value} {id ver off len : Nat} (r : RepV w O μ h v (.one (.own id ver off len))) : ∃ b g o cap, v = .slice (some ⟨g, o, none⟩) len cap ∧ h id = some b ∧ ver ≤ b.ver ∧ len ≤ cap ∧
    (ver = b.ver → g = μ id ∧ ∃ (C : Array Value) (T : TypeId), w.heap[μ id]? = some (.cells C T (0, 0)) ∧ ((o = off * b.sz ∧ (off + cap) * b.sz = C.size ∧ cap ≤ maxLen) ∨ (len = 0 ∧ cap = 0 ∧ 0 < off))) := by
  have r : RepD w O μ h v (.own id ver off len) := r
  cases r with | own _ _ _ _ b g o cap hb hv hl hs => exact ⟨b, g, o, cap, rfl, hb, hv, hl, hs⟩

theorem RepV.inv_ptr {v : Value} {id ver i off : Nat} (r : RepV w O μ h v (.one (.ptr id ver i off))) : ∃ b g o, v = .pointer (some ⟨g, o, none⟩) ∧ h id = some b ∧ ver ≤ b.ver ∧ (ver = b.ver → g = μ id ∧ o = i * b.sz + off) := by
  have r : RepD w O μ h v (.ptr id ver i off) := r
  cases r with | ptr _ _ _ _ b g o hb hv hs => exact ⟨b, g, o, rfl, hb, hv, hs⟩

theorem sim_move (x : Operand) (ρ : Operand → Value) (o : Oper) (ho : o.op = .move x ∨ o.op = .assign x) (dx : DV) (hx : RepV w O μ h (ρ x) dx) (r : Res) (hr : opMove [dx] = some r) (hI : HInv w O μ h) :
    Sim1 O w μ h n ((execOp ρ o).run P w) r := by
  simp only [opMove, Option.some.injEq] at hr; subst hr
  refine sim_pure hI ?_ hx
  rcases ho with ho | ho <;> simp [execOp, ho]

theorem sim_nilCheck (x : Operand) (ρ : Operand → Value) (o : Oper) (ho : o.op = .nilCheck x) (dx : DV) (hx : RepV w O μ h (ρ x) dx) (r : Res) (hr : opNilCheck [dx] = some r) (hI : HInv w O μ h) :
    Sim1 O w μ h n ((execOp ρ o).run P w) r := by
  unfold opNilCheck at hr
  split at hr <;> simp only [reduceCtorEq, Option.some.injEq] at hr <;> subst hr <;> rename_i heq <;> simp only [List.cons.injEq, and_true] at heq <;> subst heq
  · obtain ⟨b, g, q, e, _⟩ := hx.inv_ptr
    exact sim_pure hI (by simp [execOp, ho, e]) hx
  · obtain ⟨b, q, e, _⟩ := hx.inv_ref
    exact sim_pure hI (by simp [execOp, ho, e]) hx
  · have hx' : RepD w O μ h (ρ x) (.fn _ _) := hx
    generalize hv : ρ x = v at hx'
    cases hx' with
    | fn f caps cv hl hc => obtain ⟨g, a, b, e⟩ := fnV_shape _ cv; have hv2 := hv.trans e; exact sim_pure hI (by simp [execOp, ho, hv2]) hx
  · have hx' : RepD w O μ h (ρ x) (.p (.fn _ _)) := hx
    generalize hv : ρ x = v at hx'
    cases hx' with
    | p _ _ hp => cases hp with
      | fn f caps cv hl hc => obtain ⟨g, a, b, e⟩ := fnV_shape _ cv; have hv2 := hv.trans e; exact sim_pure hI (by simp [execOp, ho, hv2]) hx

theorem sim_pick (c x y : Operand) (ρ : Operand → Value) (o : Oper) (ho : o.op = .pick c x y) (dc dx dy : DV) (hc : RepV w O μ h (ρ c) dc) (hx : RepV w O μ h (ρ x) dx) (hy : RepV w O μ h (ρ y) dy) (r : Res)
    (hr : opPick [dc, dx, dy] = some r) (hI : HInv w O μ h) : Sim1 O w μ h n ((execOp ρ o).run P w) r := by
  unfold opPick at hr
  split at hr
  · rename_i b p q heq
    simp only [List.cons.injEq, and_true] at heq
    obtain ⟨rfl, rfl, rfl⟩ := heq
    simp only [Option.some.injEq] at hr; subst hr
    have e := hc.inv_bool
    cases b
    · exact sim_pure hI (by simp [execOp, ho, e, asBool]) hy
    · exact sim_pure hI (by simp [execOp, ho, e, asBool]) hx
  · simp at hr

theorem sim_conv (s d : TypeId) (k : IntKind) (x : Operand) (ρ : Operand → Value) (o : Oper) (ho : o.op = .convert s d x) (hs : ∃ u, P.underlying s = some u) (hd : P.underlying d = some (.int k)) (dx : DV) (hx : RepV w O μ h (ρ x) dx) (r : Res)
    (hr : opConv k [dx] = some r) (hI : HInv w O μ h) : Sim1 O w μ h n ((execOp ρ o).run P w) r := by
  unfold opConv at hr
  split at hr
  · rename_i k' a heq
    simp only [List.cons.injEq, and_true] at heq; subst heq
    simp only [Option.some.injEq] at hr; subst hr
    have e := hx.inv_int
    obtain ⟨u, hu⟩ := hs
    rw [wrapF_eq]
    refine sim_pure hI ?_ (RepV.int _ _)
    simp only [execOp, ho]
    exact exec_v (by simp [convert, underlying, hu, hd, e, Conv.intToInt, Sem.run_bind, Result.andThen, go_sem])
  · simp at hr

theorem sim_un (op : UnOp) (t : TypeId) (x : Operand) (ρ : Operand → Value) (o : Oper) (ho : o.op = .unOp op t x) (dx : DV) (hx : RepV w O μ h (ρ x) dx) (r : Res)
    (hr : opUn op [dx] = some r) (hI : HInv w O μ h) : Sim1 O w μ h n ((execOp ρ o).run P w) r := by
  cases dx with
  | agg _ => simp [opUn] at hr
  | tup _ => simp [opUn] at hr
  | one l =>
  simp only [opUn] at hr
  cases hd : evUn op l with
  | none => simp [hd] at hr
  | some d =>
  simp only [hd, Option.some.injEq] at hr; subst hr
  unfold evUn at hd
  split at hd
  · rename_i k a
    have e := hx.inv_int
    cases op <;> simp only [reduceCtorEq, Option.some.injEq] at hd <;> subst hd
    · rw [wrapF_eq]
      refine sim_pure hI ?_ (RepV.int _ _)
      simp only [execOp, ho]
      exact exec_v (by simp [Op.unary, e, Op.intArith])
    · rw [unxor_eq]
      refine sim_pure hI ?_ (RepV.int _ _)
      simp only [execOp, ho]
      exact exec_v (by simp only [Op.unary, e, Op.intBits]; rfl)
  · rename_i b
    have e := hx.inv_bool
    cases op <;> simp only [reduceCtorEq, Option.some.injEq] at hd <;> subst hd
    refine sim_pure hI ?_ (RepV.bool _)
    simp only [execOp, ho]
    exact exec_v (by simp [Op.unary, e])
  · simp at hd

theorem sim_extract (k : Nat) (x : Operand) (ρ : Operand → Value) (o : Oper) (ho : o.op = .extract x k) (dx : DV) (hx : RepV w O μ h (ρ x) dx) (r : Res)
    (hr : opExtract k [dx] = some r) (hI : HInv w O μ h) : Sim1 O w μ h n ((execOp ρ o).run P w) r := by
  unfold opExtract at hr
  split at hr
  · rename_i vs heq
    simp only [List.cons.injEq, and_true] at heq; subst heq
    obtain ⟨xs, e, ha⟩ := hx
    cases hv : vs[k]? with
    | none => simp [hv] at hr
    | some d =>
    simp only [hv, Option.some.injEq] at hr; subst hr
    obtain ⟨v, hv1, hv2⟩ := ha.get k d hv
    refine sim_pure hI ?_ (RepV.of1 hv2)
    simp only [execOp, ho]
    exact exec_v (by simp [Instr.extract, e, hv1])
  · simp at hr

theorem sim_len (t : TypeId) (x : Operand) (ρ : Operand → Value) (o : Oper) (ts : Array TypeId) (ho : o.op = .call ⟨.builtin .len, #[x], ts⟩) (e : TypeId) (ht : ts[0]? = some t) (hu : P.underlying t = some (.slice e)) (dx : DV) (hx : RepV w O μ h (ρ x) dx) (r : Res)
    (hr : opLen [dx] = some r) (hI : HInv w O μ h) : Sim1 O w μ h n ((execOp ρ o).run P w) r := by
  have key : ∀ (p : Option Addr) (len cap : Nat), ρ x = .slice p len cap → (execOp ρ o).run P w = .ok (.value (.int .i64 (Int.ofNat len))) w := by
    intro p len cap he
    simp [execOp, ho, resolve, invoke, builtin, Builtin.len_, ht, he, underlying, hu, goInt, Sem.run_bind, Result.andThen, go_sem]
  unfold opLen at hr
  split at hr <;> simp only [reduceCtorEq, Option.some.injEq] at hr <;> subst hr <;> rename_i heq <;> simp only [List.cons.injEq, and_true] at heq <;> subst heq
  · exact sim_pure hI (key _ _ _ hx.inv_nil) (RepV.int _ _)
  · obtain ⟨b, off, sz, cap, sp, he, _⟩ := hx.inv_lst
    exact sim_pure hI (key _ _ _ he) (RepV.int _ _)
  · obtain ⟨b, g, q, cap, he, _⟩ := hx.inv_own
    exact sim_pure hI (key _ _ _ he) (RepV.int _ _)

end
end Go.Ev

namespace Go.Ev
section
variable {P : Program} {O : BS} {w : World} {μ : Nat → Nat} {h : HF} {n : Nat}

theorem cond_some {α : Type} {b : Bool} {x y : α} (h : (bif b then some x else none) = some y) : b = true ∧ x = y := by
  cases b <;> simp_all

theorem sim_fieldAddr (s : TypeId) (fs : Array Field) (f : Nat) (fl : Field) (i : TypeInfo) (x : Operand) (ρ : Operand → Value) (o : Oper) (ho : o.op = .fieldAddr s x f) (hs : P.underlying s = some (.struct fs)) (hf : fs[f]? = some fl)
    (hi : P.info? fl.type = some i) (hz : i.size ≠ 0) (dx : DV) (hx : RepV w O μ h (ρ x) dx) (r : Res) (hr : opFieldAddr fl.offset [dx] = some r) (hI : HInv w O μ h) : Sim1 O w μ h n ((execOp ρ o).run P w) r := by
  have key : ∀ (g q : Nat), ρ x = .pointer (some ⟨g, q, none⟩) → (execOp ρ o).run P w = .ok (.value (.pointer (some ⟨g, q + fl.offset, none⟩))) w := by
    intro g q he
    simp only [execOp, ho]
    refine exec_v ?_
    simp [Instr.fieldAt, underlying, hs, hf, he, Instr.sureAddr, fieldPlace, Go.sizeOf, typeInfo, hi, hz, Sem.run_bind, Result.andThen, go_sem, add_addr]
  unfold opFieldAddr at hr
  split at hr
  · rename_i cs heq
    simp only [List.cons.injEq, and_true] at heq; subst heq
    obtain ⟨_, rfl⟩ := cond_some hr
    obtain ⟨b, off, he, vals, hl, hc, hp⟩ := hx.inv_ref
    refine sim_pure hI (key _ _ he) (RepD.p _ _ (.ref _ _ _ (fun j => vals (fl.offset + j)) (fun j d hj => ?_) (fun j d hj => ?_) (fun j d hj => ?_)))
    · rw [List.getElem?_drop] at hj; exact hl _ _ hj
    · rw [List.getElem?_drop] at hj; have := hc _ _ hj; rw [Nat.add_assoc]; exact this
    · rw [List.getElem?_drop] at hj; exact hp _ _ hj
  · rename_i id ver j q heq
    simp only [List.cons.injEq, and_true] at heq; subst heq
    simp only [Option.some.injEq] at hr; subst hr
    obtain ⟨b, g, q', he, hb, hv, hsm⟩ := hx.inv_ptr
    exact sim_pure hI (key _ _ he) (RepD.ptr _ _ _ _ b _ _ hb hv fun e => by obtain ⟨h1, h2⟩ := hsm e; exact ⟨h1, by omega⟩)
  · simp at hr

theorem sim_indexS (t e : TypeId) (i : TypeInfo) (x ix : Operand) (ρ : Operand → Value) (o : Oper) (ho : o.op = .indexAddr t x ix) (ht : P.underlying t = some (.slice e)) (hi : P.info? e = some i)
    (dx di : DV) (hx : RepV w O μ h (ρ x) dx) (hix : RepV w O μ h (ρ ix) di) (r : Res) (hr : opIndexS i.size h [dx, di] = some r) (hI : HInv w O μ h) : Sim1 O w μ h n ((execOp ρ o).run P w) r := by
  have key : ∀ (g q len cap j : Nat) (k : IntKind), ρ x = .slice (some ⟨g, q, none⟩) len cap → ρ ix = .int k (Int.ofNat j) → j < len → (execOp ρ o).run P w = .ok (.value (.pointer (some ⟨g, q + j * i.size, none⟩))) w := by
    intro g q len cap j k he hj hlt
    simp only [execOp, ho]
    refine exec_v ?_
    simp [Instr.indexAt, asIntOf, underlying, ht, he, hj, Go.sizeOf, typeInfo, hi, Sem.run_bind, Result.andThen, go_sem, add_addr]
    intro hle; omega
  unfold opIndexS at hr
  split at hr
  · rename_i es k j heq
    simp only [List.cons.injEq, and_true] at heq; obtain ⟨rfl, rfl⟩ := heq
    cases hc : es[j]? with
    | none => simp [hc] at hr
    | some c =>
    simp only [hc] at hr
    obtain ⟨hcl, rfl⟩ := cond_some hr
    obtain ⟨b, off, sz, cap, sp, he, hsp, hcap, hs, vals, hl, hcell, hp⟩ := hx.inv_lst
    obtain rfl : sp = none := hsp.resolve_left (fun e0 => by rw [e0] at hc; simp at hc)
    have hj : j < es.length := (List.getElem?_eq_some_iff.1 hc).1
    have hszc : i.size = sz := by rw [← hs j c hc]; exact (Nat.eq_of_beq_eq_true hcl).symm
    refine sim_pure hI (key _ _ _ _ _ _ he hix.inv_int hj) (RepD.p _ _ (.ref _ _ _ (fun q => vals j q) (fun q d hq => hl j c q d hc hq) (fun q d hq => ?_) (fun q d hq => hp j c q d hc hq)))
    rw [hszc]; exact hcell j c q d hc hq
  · rename_i id ver off len k j heq
    simp only [List.cons.injEq, and_true] at heq; obtain ⟨rfl, rfl⟩ := heq
    obtain ⟨b, g, q, cap, he, hb, hv, hcap, hsm⟩ := hx.inv_own
    simp only [hb] at hr
    obtain ⟨hlt, rfl⟩ := cond_some hr
    rw [Bool.and_eq_true] at hlt
    obtain ⟨hsz, hlt⟩ := hlt
    have hsz := Nat.eq_of_beq_eq_true hsz
    have hlt : j < len := by simpa [Nat.blt_eq] using hlt
    refine sim_read hI (key _ _ _ _ _ _ he hix.inv_int hlt) (RepD.ptr _ _ _ _ b _ _ hb hv fun e => ?_)
    obtain ⟨hg, C, T, hC, hd⟩ := hsm e
    rcases hd with ⟨ho', _⟩ | ⟨h0, _⟩
    · refine ⟨hg, ?_⟩
      rw [ho', hsz, Nat.add_mul]; simp
    · omega
  · simp at hr

theorem ble_le {a b : Nat} (h : Nat.ble a b = true) : a ≤ b := Nat.le_of_ble_eq_true h
theorem blt_lt {a b : Nat} (h : Nat.blt a b = true) : a < b := by simpa [Nat.blt_eq] using h

theorem sim_indexA (t e : TypeId) (m : Nat) (i : TypeInfo) (x ix : Operand) (ρ : Operand → Value) (o : Oper) (ho : o.op = .indexAddr t x ix) (ht : P.underlying t = some (.array m e)) (hi : P.info? e = some i)
    (dx di : DV) (hx : RepV w O μ h (ρ x) dx) (hix : RepV w O μ h (ρ ix) di) (r : Res) (hr : opIndexA m i.size [dx, di] = some r) (hI : HInv w O μ h) : Sim1 O w μ h n ((execOp ρ o).run P w) r := by
  have key : ∀ (g q j : Nat) (k : IntKind), ρ x = .pointer (some ⟨g, q, none⟩) → ρ ix = .int k (Int.ofNat j) → j < m → (execOp ρ o).run P w = .ok (.value (.pointer (some ⟨g, q + j * i.size, none⟩))) w := by
    intro g q j k he hj hlt
    simp only [execOp, ho]
    refine exec_v ?_
    simp [Instr.indexAt, asIntOf, underlying, ht, he, hj, Go.sizeOf, typeInfo, hi, Instr.sureAddr, Sem.run_bind, Result.andThen, go_sem, add_addr, hlt]
  unfold opIndexA at hr
  split at hr
  · rename_i cs k j heq
    simp only [List.cons.injEq, and_true] at heq; obtain ⟨rfl, rfl⟩ := heq
    obtain ⟨hb, rfl⟩ := cond_some hr
    rw [Bool.and_eq_true] at hb
    obtain ⟨b, off, he, vals, hl, hc, hp⟩ := hx.inv_ref
    refine sim_pure hI (key _ _ _ _ he hix.inv_int (blt_lt hb.1)) (RepD.p _ _ (.ref _ _ _ (fun q => vals (j * i.size + q)) (fun q d hq => ?_) (fun q d hq => ?_) (fun q d hq => ?_)))
    · rw [List.getElem?_drop] at hq; exact hl _ _ hq
    · rw [List.getElem?_drop] at hq; have := hc _ _ hq; rw [Nat.add_assoc]; exact this
    · rw [List.getElem?_drop] at hq; exact hp _ _ hq
  · rename_i id ver jj q k j heq
    simp only [List.cons.injEq, and_true] at heq; obtain ⟨rfl, rfl⟩ := heq
    obtain ⟨hb, rfl⟩ := cond_some hr
    obtain ⟨b, g, q', he, hb', hv, hsm⟩ := hx.inv_ptr
    exact sim_pure hI (key _ _ _ _ he hix.inv_int (blt_lt hb)) (RepD.ptr _ _ _ _ b _ _ hb' hv fun e => by obtain ⟨h1, h2⟩ := hsm e; exact ⟨h1, by omega⟩)
  · simp at hr

/-- The head of a row of cells, as the model takes a part. -/
theorem part_head (t : TypeId) (i : TypeInfo) (agg : Bool) (ha : aggT P t = some agg) (hi : P.info? t = some i) (xs : List Value) (cs : List DL) (hxs : All2 (RepD w O μ h) xs cs) (off : Nat) (v : DV) (hv : headV agg i.size (cs.drop off) = some v) :
    ∃ u, (part t xs.toArray off).run P w = .ok u w ∧ RepV w O μ h u v := by
  have hagg : (isAgg t).run P w = .ok agg w := by
    unfold aggT at ha
    unfold isAgg
    split at ha <;> simp only [Option.some.injEq, reduceCtorEq] at ha <;> subst ha <;> rename_i hu
    · simp [underlying, hu]
    · simp [underlying, hu]
    · rename_i hn1 hn2
      rename_i d
      cases d <;> simp_all [underlying]
  unfold headV at hv
  cases agg with
  | true =>
    simp only [cond_true] at hv
    obtain ⟨hle, rfl⟩ := cond_some hv
    have hle := ble_le hle
    refine ⟨.agg ((xs.drop off).take i.size).toArray, ?_, ⟨_, rfl, (hxs.drop off).take i.size⟩⟩
    have hsz : (Go.sizeOf t).run P w = .ok i.size w := by simp [Go.sizeOf, typeInfo, hi]
    simp [part, Sem.run_bind, hagg, Result.andThen, hsz]
  | false =>
    simp only [cond_false] at hv
    cases hc : cs.drop off with
    | nil => simp [hc] at hv
    | cons c rest =>
    simp only [hc, Option.some.injEq] at hv; subst hv
    have h0 : cs[off]? = some c := by
      have := List.getElem?_drop (xs := cs) (i := off) (j := 0)
      rw [hc] at this; simpa using this.symm
    obtain ⟨u, hu, hd⟩ := hxs.get off c h0
    refine ⟨u, ?_, hd⟩
    simp [part, Sem.run_bind, hagg, Result.andThen, hu]

end
end Go.Ev

namespace Go.Ev
section
variable {P : Program} {O : BS} {w : World} {μ : Nat → Nat} {h : HF} {n : Nat}

theorem run_slice (t e : TypeId) (i : TypeInfo) (p : Option Addr) (len cap : Nat) (ht : P.underlying t = some (.slice e)) (hi : P.info? e = some i) (lo hi' : Option Value) (l u : Nat)
    (hlo : (lo = none ∧ l = 0) ∨ ∃ k, lo = some (.int k (Int.ofNat l))) (hhi : (hi' = none ∧ u = len) ∨ ∃ k, hi' = some (.int k (Int.ofNat u))) (h1 : l ≤ u) (h2 : u ≤ cap) :
    (Instr.sliceAt t (.slice p len cap) lo hi' none).run P w = .ok (.slice (if cap = l then p else p.map (·.add (l * i.size))) (u - l) (cap - l)) w := by
  have b1 : ∀ c, (Instr.sliceBound (.int .i64 (Int.ofNat l)) u c).run P w = .ok l w := by intro c; simp [Instr.sliceBound, asIntOf]; intro; omega
  have hsz : (Go.sizeOf e).run P w = .ok i.size w := by simp [Go.sizeOf, typeInfo, hi]
  rcases hlo with ⟨rfl, rfl⟩ | ⟨k, rfl⟩ <;> rcases hhi with ⟨rfl, rfl⟩ | ⟨k', rfl⟩ <;>
    simp [Instr.sliceAt, Instr.slice, underlying, ht, Instr.sliceBounds, Instr.sliceBound, asIntOf, hsz, Sem.run_bind, Result.andThen, h1, h2]

theorem RepD.own_slice {id ver off len l u : Nat} {v : Value} (i : TypeInfo) (b : Blk) (hb : h id = some b) (hsz : b.sz = i.size) (g q cap : Nat) (hv : ver ≤ b.ver) (h1 : l ≤ u) (h2 : u ≤ cap)
    (hs : ver = b.ver → g = μ id ∧ ∃ (C : Array Value) (T : TypeId), w.heap[μ id]? = some (.cells C T (0, 0)) ∧ ((q = off * b.sz ∧ (off + cap) * b.sz = C.size ∧ cap ≤ maxLen) ∨ (len = 0 ∧ cap = 0 ∧ 0 < off)))
    (he : v = .slice (if cap = l then some ⟨g, q, none⟩ else some ⟨g, q + l * i.size, none⟩) (u - l) (cap - l)) : RepD w O μ h v (.own id ver (off + l) (u - l)) := by
  subst he
  by_cases hc : cap = l
  · rw [if_pos hc]
    refine .own id ver (off + l) (u - l) b g q (cap - l) hb hv (by omega) fun e => ?_
    obtain ⟨hg, C, T, hC, hd⟩ := hs e
    refine ⟨hg, C, T, hC, ?_⟩
    rcases hd with ⟨ho, hz, hm⟩ | ⟨h0, h00, hof⟩
    · by_cases hl0 : l = 0
      · subst hl0; left; exact ⟨by simpa using ho, by simpa using hz, by omega⟩
      · right; exact ⟨by omega, by omega, by omega⟩
    · right; exact ⟨by omega, by omega, by omega⟩
  · rw [if_neg hc]
    refine .own id ver (off + l) (u - l) b g _ (cap - l) hb hv (by omega) fun e => ?_
    obtain ⟨hg, C, T, hC, hd⟩ := hs e
    refine ⟨hg, C, T, hC, ?_⟩
    rcases hd with ⟨ho, hz, hm⟩ | ⟨h0, h00, hof⟩
    · left
      refine ⟨by rw [ho, hsz, Nat.add_mul], ?_, by omega⟩
      rw [← hz]; congr 1; omega
    · omega

/-- An empty slice, wherever it points. -/
theorem RepP.emp {L : BS} (a : Addr) (cap : Nat) : RepP w L (.slice (some a) 0 cap) (.lst []) :=
  .lst a.block a.off 0 cap [] (fun _ _ => .bool true) (fun i c j d hi => by simp at hi) (by simp) (fun i c hi => by simp at hi) (fun i c j d hi => by simp at hi) (fun i c j d hi => by simp at hi) (.inl rfl)

theorem RepP.lst_slice {L : BS} {es : List (List PL)} {v : Value} (i : TypeInfo) {b off sz cap l u : Nat} (hcap : es.length ≤ cap) (hs : ∀ (i : Nat) (c : List PL), es[i]? = some c → c.length = sz) (vals : Nat → Nat → Value)
    (hl : ∀ (i : Nat) (c : List PL) (j : Nat) (d : PL), es[i]? = some c → c[j]? = some d → ¬ L b)
    (hc : ∀ (i : Nat) (c : List PL) (j : Nat) (d : PL), es[i]? = some c → c[j]? = some d → w.cell? ⟨b, off + i * sz + j, none⟩ = some (vals i j))
    (hp : ∀ (i : Nat) (c : List PL) (j : Nat) (d : PL), es[i]? = some c → c[j]? = some d → RepP w L (vals i j) d) (h1 : l ≤ u) (h2 : u ≤ es.length) (hsz : (∃ c, es[l]? = some c) → l ≠ cap → sz = i.size)
    (he : v = .slice (if cap = l then some ⟨b, off, none⟩ else some ⟨b, off + l * i.size, none⟩) (u - l) (cap - l)) : RepP w L v (.lst ((es.take u).drop l)) := by
  have hlen : ((es.take u).drop l).length = u - l := by simp; omega
  have hget : ∀ (k : Nat) (c : List PL), ((es.take u).drop l)[k]? = some c → es[l + k]? = some c ∧ l + k < u := by
    intro k c hk
    rw [List.getElem?_drop, List.getElem?_take] at hk
    split at hk
    · exact ⟨hk, by assumption⟩
    · simp at hk
  subst he
  by_cases hcl : cap = l
  · rw [if_pos hcl]
    have hul : u - l = 0 := by omega
    have hnil : (es.take u).drop l = [] := List.eq_nil_of_length_eq_zero (by rw [hlen, hul])
    rw [hnil, hul]
    exact .lst b off sz (cap - l) [] (fun _ _ => .bool true) (fun i c j d hi => by simp at hi) (by simp) (fun i c hi => by simp at hi) (fun i c j d hi => by simp at hi) (fun i c j d hi => by simp at hi) (.inr rfl)
  · rw [if_neg hcl, ← hlen]
    refine .lst b (off + l * i.size) sz (cap - l) _ (fun k j => vals (l + k) j) (fun k c j d hk hj => hl _ _ _ _ (hget k c hk).1 hj) (by rw [hlen]; omega) (fun k c hk => hs _ _ (hget k c hk).1) (fun k c j d hk hj => ?_) (fun k c j d hk hj => hp _ _ _ _ (hget k c hk).1 hj) (.inr rfl)
    have hk' := (hget k c hk).1
    have hll : l < es.length := by have := (List.getElem?_eq_some_iff.1 hk').1; omega
    have hsi := hsz ⟨es[l], by simp [hll]⟩ (fun e => hcl e.symm)
    have := hc _ _ _ _ hk' hj
    rw [← hsi]
    rw [Nat.add_mul, ← Nat.add_assoc] at this
    exact this

theorem sim_slice (t e : TypeId) (i : TypeInfo) (x : Operand) (lo hi' : Option Operand) (ρ : Operand → Value) (o : Oper) (ho : o.op = .slice t x lo hi' none) (ht : P.underlying t = some (.slice e)) (hi : P.info? e = some i)
    (dx : DV) (ds : List DV) (hx : RepV w O μ h (ρ x) dx) (hds : All2 (fun y d => RepV w O μ h (ρ y) d) (lo.toList ++ hi'.toList) ds) (r : Res) (hr : opSlice i.size lo.isSome hi'.isSome h (dx :: ds) = some r) (hI : HInv w O μ h) :
    Sim1 O w μ h n ((execOp ρ o).run P w) r := by
  unfold opSlice at hr
  cases hsa : sliceArgs lo.isSome hi'.isSome (dx :: ds) with
  | none => simp [hsa] at hr
  | some q =>
  obtain ⟨y, l, u⟩ := q
  simp only [hsa] at hr
  -- the operands
  have args : dx = .one y ∧ (∃ lv : Option Value, lo.map ρ = lv ∧ ((lv = none ∧ l = 0) ∨ ∃ k, lv = some (.int k (Int.ofNat l)))) ∧
      (∃ hv : Option Value, hi'.map ρ = hv ∧ ((hv = none ∧ u = none) ∨ ∃ k u', hv = some (.int k (Int.ofNat u')) ∧ u = some u')) := by
    cases lo with
    | none =>
      cases hi' with
      | none =>
        cases hds
        simp only [sliceArgs, Option.isSome_none] at hsa
        split at hsa <;> simp_all
      | some hh =>
        cases hds with
        | cons h1 t1 => cases t1
                        unfold sliceArgs at hsa
                        split at hsa <;> simp_all
                        obtain ⟨rfl, rfl, rfl⟩ := hsa
                        exact ⟨_, _, h1.inv_int, rfl⟩
    | some ll =>
      cases hi' with
      | none =>
        cases hds with
        | cons h1 t1 => cases t1
                        unfold sliceArgs at hsa
                        split at hsa <;> simp_all
                        obtain ⟨rfl, rfl, rfl⟩ := hsa
                        exact ⟨_, h1.inv_int⟩
      | some hh =>
        cases hds with
        | cons h1 t1 => cases t1 with
          | cons h2 t2 => cases t2
                          unfold sliceArgs at hsa
                          split at hsa <;> simp_all
                          obtain ⟨rfl, rfl, rfl⟩ := hsa
                          exact ⟨⟨_, h1.inv_int⟩, _, _, h2.inv_int, rfl⟩
  obtain ⟨rfl, ⟨lv, hlv, hlo⟩, hv', hhv, hhi⟩ := args
  -- the run
  have key : ∀ (p : Option Addr) (len cap : Nat), ρ x = .slice p len cap → l ≤ u.getD len → u.getD len ≤ cap →
      (execOp ρ o).run P w = .ok (.value (.slice (if cap = l then p else p.map (·.add (l * i.size))) (u.getD len - l) (cap - l))) w := by
    intro p len cap he h1 h2
    simp only [execOp, ho]
    refine exec_v ?_
    rw [he, hlv, hhv]
    refine run_slice t e i p len cap ht hi lv hv' l (u.getD len) hlo ?_ h1 h2
    rcases hhi with ⟨a, b⟩ | ⟨k, u', a, b⟩
    · exact .inl ⟨a, by rw [b]; rfl⟩
    · exact .inr ⟨k, by rw [a, b]; rfl⟩
  cases hsi : sliceIn i.size h y l u with
  | none => simp [hsi] at hr
  | some q =>
  obtain ⟨d, rd⟩ := q
  simp only [hsi, Option.some.injEq] at hr; subst hr
  unfold sliceIn at hsi
  split at hsi
  · -- lst
    rename_i es
    obtain ⟨hb, heq⟩ := cond_some hsi
    simp only [Prod.mk.injEq] at heq; obtain ⟨rfl, rfl⟩ := heq
    simp only [Bool.and_eq_true] at hb
    obtain ⟨b, off, sz, cap, sp, he, hsp, hcap, hs, vals, hl, hcell, hp⟩ := hx.inv_lst
    have h1 := ble_le hb.1.1; have h2 := ble_le hb.1.2
    rcases hsp with rfl | rfl
    · refine sim_read hI (key _ _ _ he h1 (by omega)) (RepD.p _ _ ?_)
      have e1 : u.getD 0 - l = 0 := by simp only [List.length_nil] at h2; omega
      have e2 : (([] : List (List PL)).take (u.getD 0)).drop l = [] := by simp
      simp only [List.length_nil] at e1 ⊢
      rw [e1, e2]
      split
      · exact RepP.emp _ _
      · exact RepP.emp _ _
    refine sim_read hI (key _ _ _ he h1 (by omega)) (RepD.p _ _ (RepP.lst_slice i hcap hs vals hl hcell hp h1 h2 (fun ⟨c, hcc⟩ _ => ?_) ?_))
    · have := hb.2; rw [hcc] at this; rw [← hs l c hcc]; exact Nat.eq_of_beq_eq_true this
    · split <;> simp [add_addr]
  · -- nil
    obtain ⟨hb, heq⟩ := cond_some hsi
    simp only [Prod.mk.injEq] at heq; obtain ⟨rfl, rfl⟩ := heq
    simp only [Bool.and_eq_true] at hb
    have h1 := Nat.eq_of_beq_eq_true hb.1; have h2 := Nat.eq_of_beq_eq_true hb.2
    subst h1
    refine sim_read hI ((key _ _ _ hx.inv_nil (by omega) (by omega)).trans ?_) (RepD.p _ _ .nilS)
    simp [h2]
  · -- own
    rename_i id ver off len
    obtain ⟨b, g, q, cap, he, hb', hv, hcap, hsm⟩ := hx.inv_own
    simp only [hb'] at hsi
    obtain ⟨hb, heq⟩ := cond_some hsi
    simp only [Prod.mk.injEq] at heq; obtain ⟨rfl, rfl⟩ := heq
    simp only [Bool.and_eq_true] at hb
    have h1 := ble_le hb.1.1
    have h3 := Nat.eq_of_beq_eq_true hb.2
    have h2 : u.getD len ≤ cap := by
      rcases Bool.or_eq_true_iff.1 hb.1.2 with h2 | h2
      · have := ble_le h2; omega
      · simp only [Bool.and_eq_true, Bool.not_eq_true'] at h2
        obtain ⟨⟨⟨⟨e1, e2⟩, e3⟩, e4⟩, e5⟩ := h2
        have e1 := Nat.eq_of_beq_eq_true e1; have e3 := Nat.eq_of_beq_eq_true e3
        have e4 := blt_lt e4; have e5 := ble_le e5
        obtain ⟨_, C, T, hC, hd⟩ := hsm e1.symm
        have hbk := hI.blk id b hb'
        simp only [BlkOk, e2, Bool.false_eq_true, if_false] at hbk
        obtain ⟨C', hC', hle, _⟩ := hbk
        rw [hC] at hC'; cases hC'
        rcases hd with ⟨_, hz, _⟩ | ⟨_, _, hof⟩
        · rw [e3, Nat.zero_add] at hz
          rw [← hz] at hle
          have := Nat.le_of_mul_le_mul_right hle (by omega : 0 < b.sz)
          omega
        · omega
    refine sim_read hI (key _ _ _ he h1 h2) (RepD.own_slice i b hb' h3 g q cap hv h1 h2 hsm ?_)
    split <;> simp [add_addr]
  · simp at hsi

theorem sim_slice3 (t e : TypeId) (i : TypeInfo) (x lo hi' mx : Operand) (ρ : Operand → Value) (o : Oper) (ho : o.op = .slice t x (some lo) (some hi') (some mx)) (ht : P.underlying t = some (.slice e)) (hi : P.info? e = some i)
    (dx d1 d2 d3 : DV) (hx : RepV w O μ h (ρ x) dx) (h1 : RepV w O μ h (ρ lo) d1) (h2 : RepV w O μ h (ρ hi') d2) (h3 : RepV w O μ h (ρ mx) d3) (r : Res) (hr : opSlice3 [dx, d1, d2, d3] = some r) (hI : HInv w O μ h) :
    Sim1 O w μ h n ((execOp ρ o).run P w) r := by
  unfold opSlice3 at hr
  split at hr
  · rename_i id ver off len k1 a k2 b k3 c heq
    simp only [List.cons.injEq, and_true] at heq; obtain ⟨rfl, rfl, rfl, rfl⟩ := heq
    · obtain ⟨hb, rfl⟩ := cond_some hr
      simp only [Bool.and_eq_true] at hb
      have e1 := ble_le hb.1.1; have e2 := ble_le hb.1.2; have e3 := ble_le hb.2
      obtain ⟨bk, g, q, cap, he, _, _, hcap, _⟩ := hx.inv_own
      have hsz : (Go.sizeOf e).run P w = .ok i.size w := by simp [Go.sizeOf, typeInfo, hi]
      have e4 : c ≤ cap := by omega
      refine sim_pure (v := .slice (if c = a then some ⟨g, q, none⟩ else (some (⟨g, q, none⟩ : Addr)).map (·.add (a * i.size))) (b - a) (c - a)) hI ?_ (RepD.p _ _ (.junk _ rfl))
      simp only [execOp, ho]
      refine exec_v ?_
      rw [he]
      simp [Option.map_some, h1.inv_int, h2.inv_int, h3.inv_int, Instr.sliceAt, Instr.slice, underlying, ht, Instr.sliceBounds, Instr.sliceBound, asIntOf, hsz, Sem.run_bind, Result.andThen, e1, e2, e4]
  · simp at hr

theorem sim_lenA (t : TypeId) (m : Nat) (e : TypeId) (x : Operand) (ρ : Operand → Value) (o : Oper) (ts : Array TypeId) (ho : o.op = .call ⟨.builtin .len, #[x], ts⟩) (ht : ts[0]? = some t) (hu : P.underlying t = some (.array m e)) (dx : DV) (r : Res)
    (hr : opLenA m [dx] = some r) (hI : HInv w O μ h) : Sim1 O w μ h n ((execOp ρ o).run P w) r := by
  simp only [opLenA, Option.some.injEq] at hr; subst hr
  refine sim_pure (v := .int .i64 (Int.ofNat m)) hI ?_ (RepV.int _ _)
  simp [execOp, ho, resolve, invoke, builtin, Builtin.len_, ht, underlying, hu, goInt, Sem.run_bind, Result.andThen, go_sem]

theorem cond_or {α : Type} {b : Bool} {x : Option α} {y : α} (h : (bif b then x else none) = some y) : b = true ∧ x = some y := by
  cases b <;> simp_all

theorem sim_field (s : TypeId) (fs : Array Field) (f : Nat) (fl : Field) (i : TypeInfo) (agg : Bool) (x : Operand) (ρ : Operand → Value) (o : Oper) (ho : o.op = .field s x f) (hs : P.underlying s = some (.struct fs)) (hf : fs[f]? = some fl)
    (ha : aggT P fl.type = some agg) (hi : P.info? fl.type = some i) (dx : DV) (hx : RepV w O μ h (ρ x) dx) (r : Res) (hr : opField agg i.size fl.offset [dx] = some r) (hI : HInv w O μ h) : Sim1 O w μ h n ((execOp ρ o).run P w) r := by
  unfold opField at hr
  split at hr
  · rename_i cs heq
    simp only [List.cons.injEq, and_true] at heq; subst heq
    obtain ⟨_, hr⟩ := cond_or hr
    cases hv : headV agg i.size (cs.drop fl.offset) with
    | none => simp [hv] at hr
    | some v =>
    simp only [hv, Option.some.injEq] at hr; subst hr
    obtain ⟨xs, e, hxs⟩ := hx
    obtain ⟨u, hu, hr⟩ := part_head (P := P) fl.type i agg ha hi xs cs hxs fl.offset v hv
    refine sim_pure hI ?_ hr
    simp only [execOp, ho]
    exact exec_v (by simp [Instr.field, underlying, hs, hf, e, asAgg, Sem.run_bind, Result.andThen, hu])
  · simp at hr

theorem sim_indexV (t e : TypeId) (m : Nat) (i : TypeInfo) (agg : Bool) (x ix : Operand) (ρ : Operand → Value) (o : Oper) (ho : o.op = .index t x ix) (ht : P.underlying t = some (.array m e)) (ha : aggT P e = some agg) (hi : P.info? e = some i)
    (dx di : DV) (hx : RepV w O μ h (ρ x) dx) (hix : RepV w O μ h (ρ ix) di) (r : Res) (hr : opIndexV m agg i.size [dx, di] = some r) (hI : HInv w O μ h) : Sim1 O w μ h n ((execOp ρ o).run P w) r := by
  unfold opIndexV at hr
  split at hr
  · rename_i cs k j heq
    simp only [List.cons.injEq, and_true] at heq; obtain ⟨rfl, rfl⟩ := heq
    obtain ⟨hb, hr⟩ := cond_or hr
    rw [Bool.and_eq_true] at hb
    have hlt := blt_lt hb.1
    cases hv : headV agg i.size (cs.drop (j * i.size)) with
    | none => simp [hv] at hr
    | some v =>
    simp only [hv, Option.some.injEq] at hr; subst hr
    obtain ⟨xs, ex, hxs⟩ := hx
    obtain ⟨u, hu, hr⟩ := part_head (P := P) e i agg ha hi xs cs hxs (j * i.size) v hv
    have hsz : (Go.sizeOf e).run P w = .ok i.size w := by simp [Go.sizeOf, typeInfo, hi]
    refine sim_pure hI ?_ hr
    simp only [execOp, ho]
    exact exec_v (by simp [Instr.index, underlying, ht, ex, hix.inv_int, asIntOf, Sem.run_bind, Result.andThen, hlt, hsz, hu])
  · simp at hr

theorem sim_indexStr (t : TypeId) (x ix : Operand) (ρ : Operand → Value) (o : Oper) (ho : o.op = .index t x ix) (ht : P.underlying t = some .string)
    (dx di : DV) (hx : RepV w O μ h (ρ x) dx) (hix : RepV w O μ h (ρ ix) di) (r : Res) (hr : opIndexStr [dx, di] = some r) (hI : HInv w O μ h) : Sim1 O w μ h n ((execOp ρ o).run P w) r := by
  unfold opIndexStr at hr
  split at hr
  · rename_i bs k j heq
    simp only [List.cons.injEq, and_true] at heq; obtain ⟨rfl, rfl⟩ := heq
    cases hv : bs[j]? with
    | none => simp [hv] at hr
    | some b =>
    simp only [hv, Option.some.injEq] at hr; subst hr
    obtain ⟨s, es, rfl⟩ := hx.inv_str
    rw [List.getElem?_map] at hv
    cases hb : s.data.toList[j]? with
    | none => simp [hb] at hv
    | some c =>
    simp only [hb, Option.map_some, Option.some.injEq] at hv; subst hv
    refine sim_pure (v := .int .u8 c.toNat) hI ?_ (RepV.int _ _)
    simp only [execOp, ho]
    have hs : s[j]? = some c := by
      rw [Array.getElem?_toList] at hb
      exact hb
    exact exec_v (by simp [Instr.index, underlying, ht, es, hix.inv_int, asIntOf, Sem.run_bind, Result.andThen, hs])
  · simp at hr

end
end Go.Ev

namespace Go.Ev
section
variable {P : Program} {O : BS} {w : World} {μ : Nat → Nat} {h : HF} {n : Nat}

theorem isNil_val {v : Value} {l : DL} {b : Bool} (hv : RepV w O μ h v (.one l)) (hb : l.isNil = some b) : ∃ p len cap, v = .slice p len cap ∧ p.isNone = b := by
  unfold DL.isNil at hb
  split at hb <;> simp only [Option.some.injEq, reduceCtorEq] at hb <;> subst hb
  · exact ⟨_, _, _, hv.inv_nil, rfl⟩
  · obtain ⟨g, q, _, _, _, e, _⟩ := hv.inv_lst; exact ⟨_, _, _, e, rfl⟩
  · obtain ⟨_, g, q, _, e, _⟩ := hv.inv_own; exact ⟨_, _, _, e, rfl⟩

theorem run_equalIn_nil (d0 : Nat) (t e : TypeId) (p q : Option Addr) (a b c d : Nat) (x y : Bool) (ht : P.underlying t = some (.slice e)) (hp : p.isNone = x) (hq : q.isNone = y) (hxy : x = true ∨ y = true) :
    (Op.equalIn (d0 + 1) t (.slice p a b) (.slice q c d)).run P w = .ok (x && y) w := by
  cases p with
  | none =>
    simp at hp; subst hp
    simp [Op.equalIn, underlying, ht, hq]
  | some p =>
    simp at hp; subst hp
    have hy : y = true := by simpa using hxy
    subst hy
    cases q with
    | some q => simp at hq
    | none => simp [Op.equalIn, underlying, ht]

theorem run_equal_nil (t e : TypeId) (p q : Option Addr) (a b c d : Nat) (x y : Bool) (ht : P.underlying t = some (.slice e)) (hp : p.isNone = x) (hq : q.isNone = y) (hxy : x = true ∨ y = true) :
    (Op.equal t (.slice p a b) (.slice q c d)).run P w = .ok (x && y) w := run_equalIn_nil 9999 t e p q a b c d x y ht hp hq hxy

theorem sim_binNil (neq : Bool) (t u e : TypeId) (x y : Operand) (ρ : Operand → Value) (o : Oper) (ho : o.op = .binOp (if neq then .neq else .eql) t x y u) (ht : P.underlying t = some (.slice e))
    (dx dy : DV) (hx : RepV w O μ h (ρ x) dx) (hy : RepV w O μ h (ρ y) dy) (r : Res) (hr : opBinNil neq [dx, dy] = some r) (hI : HInv w O μ h) :
    Sim1 O w μ h n ((execOp ρ o).run P w) r := by
  cases dx with
  | agg _ => simp [opBinNil] at hr
  | tup _ => simp [opBinNil] at hr
  | one lx =>
  cases dy with
  | agg _ => simp [opBinNil] at hr
  | tup _ => simp [opBinNil] at hr
  | one ly =>
  simp only [opBinNil] at hr
  cases hc : nilCmp neq lx ly with
  | none => simp [hc] at hr
  | some res =>
  simp only [hc, Option.some.injEq] at hr; subst hr
  have key : ∀ (a b : Bool), lx.isNil = some a → ly.isNil = some b → (a = true ∨ b = true) → (execOp ρ o).run P w = .ok (.value (.bool ((a && b) != neq))) w := by
    intro a b ha hb hab
    obtain ⟨p, l1, c1, e1, hp⟩ := isNil_val hx ha
    obtain ⟨q, l2, c2, e2, hq⟩ := isNil_val hy hb
    simp only [execOp, ho]
    refine exec_v ?_
    rw [Sem.run_bind, e1, e2, run_eqGuard_slice]
    have hE := run_equal_nil (w := w) t e p q l1 c1 l2 c2 a b ht hp hq hab
    cases neq
    · simp only [Result.andThen, binOp, Sem.run_bind, hE, if_false, Bool.false_eq_true]
      simp [pure]
    · simp only [Result.andThen, binOp, Sem.run_bind, hE, if_true]
      simp [pure]
  unfold nilCmp at hc
  split at hc
  · rename_i b ha hb
    simp only [Option.some.injEq] at hc; subst hc
    refine sim_pure hI (key _ _ ha hb (.inl rfl)) ?_
    simpa using RepV.bool _
  · rename_i ha hb
    simp only [Option.some.injEq] at hc; subst hc
    refine sim_pure hI (key _ _ ha hb (.inr rfl)) ?_
    have : ((false && true) != neq) = neq := by cases neq <;> rfl
    rw [this]; exact RepV.bool _
  · simp at hc

/-- Two rows of integers of one kind. -/
theorem eqInts_spec {k : IntKind} : ∀ {xs ys : List DL} {b : Bool}, eqInts k xs ys = some b → ∀ {vs us : List Value}, All2 (RepD w O μ h) vs xs → All2 (RepD w O μ h) us ys →
    ∃ as bs : List Int, vs = as.map (Value.int k) ∧ us = bs.map (Value.int k) ∧ as.length = bs.length ∧ b = (as == bs) := by
  intro xs
  induction xs with
  | nil =>
    intro ys b hb vs us hv hu
    cases ys with
    | nil => simp [eqInts] at hb; subst hb; cases hv; cases hu; exact ⟨[], [], rfl, rfl, rfl, rfl⟩
    | cons y ys => simp [eqInts] at hb
  | cons x xs ih =>
    intro ys b hb vs us hv hu
    cases x with
    | own _ _ _ _ => simp [eqInts] at hb
    | ptr _ _ _ _ => simp [eqInts] at hb
    | fn _ _ => simp [eqInts] at hb
    | mp _ => simp [eqInts] at hb
    | p l =>
    cases l with
    | bool _ => simp [eqInts] at hb
    | nilS => simp [eqInts] at hb
    | lst _ => simp [eqInts] at hb
    | ref _ => simp [eqInts] at hb
    | fn _ _ => simp [eqInts] at hb
    | str _ => simp [eqInts] at hb
    | junk => simp [eqInts] at hb
    | int k1 a =>
    cases ys with
    | nil => simp [eqInts] at hb
    | cons y ys =>
    cases y with
    | own _ _ _ _ => simp [eqInts] at hb
    | ptr _ _ _ _ => simp [eqInts] at hb
    | fn _ _ => simp [eqInts] at hb
    | mp _ => simp [eqInts] at hb
    | p l =>
    cases l with
    | bool _ => simp [eqInts] at hb
    | nilS => simp [eqInts] at hb
    | lst _ => simp [eqInts] at hb
    | ref _ => simp [eqInts] at hb
    | fn _ _ => simp [eqInts] at hb
    | str _ => simp [eqInts] at hb
    | junk => simp [eqInts] at hb
    | int k2 c =>
    simp only [eqInts] at hb
    obtain ⟨hk, hb2⟩ := cond_or hb
    clear hb
    rw [Bool.and_eq_true, keq_iff, keq_iff] at hk
    obtain ⟨q1, q2⟩ := hk
    have q1 := q1.symm; subst q1
    have q2 := q2.symm; subst q2
    cases hr : eqInts k xs ys with
    | none => simp [hr] at hb2
    | some r =>
    simp only [hr, Option.some.injEq] at hb2
    cases hv with
    | cons hv1 hv2 => cases hu with
      | cons hu1 hu2 =>
        obtain ⟨as, bs, rfl, rfl, hl, rfl⟩ := ih hr hv2 hu2
        have e1 := RepV.inv_int (hv1 : RepV w O μ h _ (.one _)); have e2 := RepV.inv_int (hu1 : RepV w O μ h _ (.one _))
        refine ⟨a :: as, c :: bs, by rw [e1]; rfl, by rw [e2]; rfl, by simp [hl], ?_⟩
        rw [← hb2, eqF_eq]; rfl

theorem sim_max (isMin : Bool) (xs : Array Operand) (ρ : Operand → Value) (o : Oper) (ts : Array TypeId) (ho : o.op = .call ⟨.builtin (if isMin then .min else .max), xs, ts⟩)
    (ds : List DV) (hds : All2 (fun y d => RepV w O μ h (ρ y) d) xs.toList ds) (r : Res) (hr : opMax (if isMin then (fun a b => ltF b a) else ltF) ds = some r) (hI : HInv w O μ h) : Sim1 O w μ h n ((execOp ρ o).run P w) r := by
  have fold : ∀ (vs : List Value) (ds : List DV) (k : IntKind) (a : Int) (d : DV), All2 (RepV w O μ h) vs ds → maxD (if isMin then (fun a b => ltF b a) else ltF) k a ds = some d →
      ∃ v, (List.foldlM (if isMin then Builtin.min2 else Builtin.max2) (Value.int k a) vs).run P w = .ok v w ∧ RepV w O μ h v d := by
    intro vs ds
    induction ds generalizing vs with
    | nil =>
      intro k a d hv hd
      cases hv
      simp only [maxD, Option.some.injEq] at hd; subst hd
      exact ⟨.int k a, by simp, RepV.int _ _⟩
    | cons y ys ih =>
      intro k a d hv hd
      cases y with
      | agg _ => simp [maxD] at hd
      | tup _ => simp [maxD] at hd
      | one l =>
      cases l with
      | own _ _ _ _ => simp [maxD] at hd
      | ptr _ _ _ _ => simp [maxD] at hd
      | fn _ _ => simp [maxD] at hd
      | mp _ => simp [maxD] at hd
      | p l =>
      cases l with
      | bool _ => simp [maxD] at hd
      | nilS => simp [maxD] at hd
      | lst _ => simp [maxD] at hd
      | ref _ => simp [maxD] at hd
      | fn _ _ => simp [maxD] at hd
      | str _ => simp [maxD] at hd
      | junk => simp [maxD] at hd
      | int k' b =>
      simp only [maxD] at hd
      obtain ⟨hk, hd2⟩ := cond_or hd
      clear hd
      have hk := (keq_iff _ _).1 hk; subst hk
      cases hv with
      | cons h1 h2 =>
        obtain ⟨v, hrun, hrep⟩ := ih _ k _ d h2 hd2
        refine ⟨v, ?_, hrep⟩
        have e := h1.inv_int
        rw [List.foldlM_cons, Sem.run_bind, e]
        have step : ((if isMin then Builtin.min2 else Builtin.max2) (Value.int k a) (Value.int k b)).run P w = .ok (.int k (bif (if isMin then (fun a b => ltF b a) else ltF) a b then b else a)) w := by
          cases isMin <;> simp [Builtin.min2, Builtin.max2, ltF_eq, Bool.cond_decide]
        rw [step]
        exact hrun
  unfold opMax at hr
  split at hr
  · rename_i k a vs
    generalize hxl : xs.toList = xl at hds
    cases hds with
    | cons h1 h2 =>
      rename_i x0 xs0
      cases hm : maxD (if isMin then (fun a b => ltF b a) else ltF) k a vs with
      | none => simp [hm] at hr
      | some d =>
      simp only [hm, Option.some.injEq] at hr; subst hr
      have h2' : All2 (RepV w O μ h) (xs0.map ρ) vs := by
        clear hm hxl
        induction h2 with
        | nil => exact .nil
        | cons q _ ih => exact .cons q ih
      obtain ⟨v, hrun, hrep⟩ := fold _ vs k a d h2' hm
      refine sim_pure hI ?_ hrep
      have hx0 := h1.inv_int
      have hargs : (xs.map ρ).toList = Value.int k a :: xs0.map ρ := by rw [Array.toList_map, hxl]; simp [hx0]
      cases isMin
      · simp only [execOp, ho, resolve, Bool.false_eq_true, if_false]
        simp only [Sem.run_bind, pure, Sem.run, Result.andThen, invoke, builtin, Builtin.max_, hargs]
        simp only [Bool.false_eq_true, if_false] at hrun
        rw [hrun]
      · simp only [execOp, ho, resolve, if_true]
        simp only [Sem.run_bind, pure, Sem.run, Result.andThen, invoke, builtin, Builtin.min_, hargs]
        simp only [if_true] at hrun
        rw [hrun]
  · simp at hr

theorem sim_makeFunc (f : Nat) (caps : Array Operand) (ρ : Operand → Value) (o : Oper) (ho : (Nat.blt f bnd = true ∧ o.op = .makeFunc (.func f) #[] caps) ∨ (Nat.blt f bnd = false ∧ o.op = .makeFunc (.func (f - bnd)) caps #[]))
    (ds : List DV) (hds : All2 (fun y d => RepV w O μ h (ρ y) d) caps.toList ds) (r : Res) (hr : opMakeFunc f ds = some r) (hI : HInv w O μ h) : Sim1 O w μ h n ((execOp ρ o).run P w) r := by
  unfold opMakeFunc at hr
  cases hm : mapO oneL ds with
  | none => simp [hm] at hr
  | some ls =>
  simp only [hm, Option.some.injEq] at hr; subst hr
  have key : ∀ (ys : List Operand) (ds : List DV) (ls : List DL), All2 (fun y d => RepV w O μ h (ρ y) d) ys ds → mapO oneL ds = some ls → All2 (RepD w O μ h) (ys.map ρ) ls := by
    intro ys ds ls hh
    induction hh generalizing ls with
    | nil => intro hl; simp [mapO] at hl; subst hl; exact .nil
    | @cons y d ys ds h1 _ ih =>
      intro hl
      simp only [mapO] at hl
      cases d with
      | agg _ => simp [oneL] at hl
      | tup _ => simp [oneL] at hl
      | one l =>
        simp only [oneL] at hl
        cases hz : mapO oneL ds with
        | none => simp [hz] at hl
        | some zs =>
          simp only [hz, Option.some.injEq] at hl; subst hl
          exact .cons h1 (ih _ hz)
  have ha := key _ _ _ hds hm
  have he : (caps.map ρ) = (caps.toList.map ρ).toArray := by apply Array.ext'; simp
  refine sim_pure (v := fnV f (caps.toList.map ρ)) hI ?_ ?_
  · rcases ho with ⟨hf, ho⟩ | ⟨hf, ho⟩
    · simp only [execOp, ho, fnV, hf, cond_true, ← he]
      exact exec_v (by simp [Instr.makeFunc])
    · simp only [execOp, ho, fnV, hf, cond_false, ← he]
      exact exec_v (by simp [Instr.makeFunc])
  · exact RepD.fn f ls _ ha.length fun i d v hd hv => by
      obtain ⟨v', hv', hr⟩ := ha.get i d hd
      rw [hv] at hv'; cases hv'; exact hr

end
end Go.Ev

namespace Go.Ev
section
variable {P : Program} {O : BS} {w : World} {μ : Nat → Nat} {h : HF} {n : Nat}

theorem run_part_int (e : TypeId) (k : IntKind) (he : P.underlying e = some (.int k)) (as : List Int) (j : Nat) (a : Int) (ha : as[j]? = some a) :
    (part e (as.map (Value.int k)).toArray j).run P w = .ok (.int k a) w := by
  have hagg : (isAgg e).run P w = .ok false w := by simp [isAgg, underlying, he]
  simp [part, Sem.run_bind, hagg, Result.andThen, ha]

theorem run_eqItems_ints (d : Nat) (e : TypeId) (k : IntKind) (he : P.underlying e = some (.int k)) (as bs : List Int) (hl : as.length = bs.length) : ∀ (m s : Nat), s + m = as.length →
    (Op.eqItems (d + 1) e 1 (as.map (Value.int k)).toArray (bs.map (Value.int k)).toArray (List.range' s m)).run P w = .ok (as.drop s == bs.drop s) w := by
  intro m
  induction m with
  | zero =>
    intro s hs
    rw [List.drop_eq_nil_of_le (by omega), List.drop_eq_nil_of_le (by omega)]
    simp [Op.eqItems]
  | succ m ih =>
    intro s hs
    have h1 : s < as.length := by omega
    have h2 : s < bs.length := by omega
    rw [List.range'_succ]
    simp only [Op.eqItems, Nat.mul_one, Sem.run_bind, run_part_int e k he as s _ (List.getElem?_eq_getElem h1), run_part_int e k he bs s _ (List.getElem?_eq_getElem h2), Result.andThen_ok]
    have hq : (Op.equalIn (d + 1) e (.int k as[s]) (.int k bs[s])).run P w = .ok (as[s] == bs[s]) w := by
      simp [Op.equalIn, underlying, he]
    rw [hq]
    simp only [Result.andThen_ok]
    rw [List.drop_eq_getElem_cons h1, List.drop_eq_getElem_cons h2]
    rw [show ((as[s] :: as.drop (s + 1)) == (bs[s] :: bs.drop (s + 1))) = ((as[s] == bs[s]) && (as.drop (s + 1) == bs.drop (s + 1))) from rfl]
    cases (as[s] == bs[s])
    · simp only [Bool.not_false, if_true, Bool.false_and, Sem.run_pure]
    · simp only [Bool.not_true, Bool.false_eq_true, if_false, Bool.true_and]
      exact ih (s + 1) (by omega)

theorem run_eqGuard_agg (op : BinOp) (t : TypeId) (x y : Operand) (xs ys : Array Value) (hg : P.eqGuardType P.depth t = false) : (eqGuard op t x y (.agg xs) (.agg ys)).run P w = .ok () w := by
  cases op <;> simp [eqGuard, go_sem, hg]

theorem sim_binAgg (neq : Bool) (t u e : TypeId) (k : IntKind) (m : Nat) (i : TypeInfo) (x y : Operand) (ρ : Operand → Value) (o : Oper) (ho : o.op = .binOp (if neq then .neq else .eql) t x y u) (ht : P.underlying t = some (.array m e))
    (he : P.underlying e = some (.int k)) (hi : P.info? e = some i) (hs : i.size = 1) (hg : P.eqGuardType P.depth t = false)
    (dx dy : DV) (hx : RepV w O μ h (ρ x) dx) (hy : RepV w O μ h (ρ y) dy) (r : Res) (hr : opBinAgg neq k m [dx, dy] = some r) (hI : HInv w O μ h) :
    Sim1 O w μ h n ((execOp ρ o).run P w) r := by
  unfold opBinAgg at hr
  split at hr
  · rename_i xs ys heq
    simp only [List.cons.injEq, and_true] at heq; obtain ⟨rfl, rfl⟩ := heq
    obtain ⟨hlen, hr⟩ := cond_or hr
    have hlen := Nat.eq_of_beq_eq_true hlen
    cases hb : eqInts k xs ys with
    | none => simp [hb] at hr
    | some b =>
    simp only [hb, Option.some.injEq] at hr; subst hr
    obtain ⟨vs, ex, hvs⟩ := hx
    obtain ⟨us, ey, hus⟩ := hy
    obtain ⟨as, bs, rfl, rfl, hl, rfl⟩ := eqInts_spec hb hvs hus
    have hal : as.length = m := by have := hvs.length; simp at this; omega
    have hc : P.cellsOf e = 1 := by simp [Program.cellsOf, hi, hs]
    have hE : (Op.equal t (.agg (as.map (Value.int k)).toArray) (.agg (bs.map (Value.int k)).toArray)).run P w = .ok (as == bs) w := by
      show (Op.equalIn (9999 + 1) t _ _).run P w = _
      rw [run_equalIn_array w 9999 _ _ ht hi, hc, List.range_eq_range']
      have := run_eqItems_ints (P := P) (w := w) 9998 e k he as bs hl m 0 (by omega)
      simpa using this
    refine sim_pure (v := .bool ((as == bs) != neq)) hI ?_ (RepV.bool _)
    simp only [execOp, ho]
    refine exec_v ?_
    rw [Sem.run_bind, ex, ey, run_eqGuard_agg _ _ _ _ _ _ hg]
    cases neq
    · simp only [Result.andThen, binOp, Sem.run_bind, hE, if_false, Bool.false_eq_true]
      simp [pure]
    · simp only [Result.andThen, binOp, Sem.run_bind, hE, if_true]
      simp [pure]
  · simp at hr

/-! ### aggregates -/

theorem litL_rep {v : Value} {l : PL} (hl : litL v = some l) (L : BS) : RepP w L v l := by
  unfold litL at hl
  split at hl <;> simp only [Option.some.injEq, reduceCtorEq] at hl <;> subst hl
  · exact .bool _
  · exact .int _ _
  · exact .nilS
  · exact .str _
  · exact .junk _ rfl
  · exact .junk _ rfl
  · exact .junk _ rfl

theorem mapO_all2 {α β : Type} {f : α → Option β} {R : α → β → Prop} (hR : ∀ x y, f x = some y → R x y) : ∀ {xs : List α} {ys : List β}, mapO f xs = some ys → All2 R xs ys
  | [], ys, hm => by simp [mapO] at hm; subst hm; exact .nil
  | x :: xs, ys, hm => by
    simp only [mapO] at hm
    cases hx : f x with
    | none => simp [hx] at hm
    | some y =>
      simp only [hx] at hm
      cases hxs : mapO f xs with
      | none => simp [hxs] at hm
      | some zs =>
        simp only [hxs, Option.some.injEq] at hm; subst hm
        exact .cons (hR _ _ hx) (mapO_all2 hR hxs)

/-- The zero cells of a type. -/
theorem zeroOf_spec {t : TypeId} {z : List PL} (hz : zeroOf P t = some z) : ∃ i zv, P.info? t = some i ∧ i.zero = some zv ∧ z.length = i.size ∧ zv.cells.size = i.size ∧ (∀ w' : World, (zeroValue t).run P w' = .ok zv w') ∧
    ∀ (w' : World) (O' : BS) (μ' : Nat → Nat) (h' : HF), All2 (RepD w' O' μ' h') zv.cells.toList (z.map .p) := by
  unfold zeroOf at hz
  cases hi : P.info? t with
  | none => simp [hi] at hz
  | some i =>
  simp only [hi] at hz
  cases hzv : i.zero with
  | none => simp [hzv] at hz
  | some zv =>
  simp only [hzv] at hz
  cases hm : mapO litL zv.cells.toList with
  | none => simp [hm] at hz
  | some ls =>
  simp only [hm] at hz
  split at hz <;> simp only [Option.some.injEq, reduceCtorEq] at hz
  subst hz
  rename_i hlen0
  have hlen : ls.length = i.size := by simpa using hlen0
  clear hlen0
  have hal : All2 (fun v l => litL v = some l) zv.cells.toList ls := mapO_all2 (fun _ _ e => e) hm
  refine ⟨i, zv, rfl, hzv, hlen, by have := hal.length; simp at this; omega, fun w' => by simp [zeroValue, typeInfo, hi, hzv], fun w' O' μ' h' => ?_⟩
  clear hm hlen
  generalize zv.cells.toList = vs at hal
  induction hal with
  | nil => exact .nil
  | cons hx _ ih => exact .cons (.p _ _ (litL_rep hx _)) ih

theorem foldl_set : ∀ (vs : List Value) (cs : Array Value) (off s : Nat), off + s + vs.length ≤ cs.size →
    ((vs.zipIdx s).foldl (fun (cs : Array Value) (x : Value × Nat) => cs.setIfInBounds (off + x.2) x.1) cs).toList = cs.toList.take (off + s) ++ vs ++ cs.toList.drop (off + s + vs.length)
  | [], cs, off, s, _ => by simp
  | v :: vs, cs, off, s, hle => by
    simp only [List.length_cons] at hle
    rw [List.zipIdx_cons, List.foldl_cons, foldl_set vs _ off (s + 1) (by simp; omega)]
    have e1 : off + (s + 1) = (off + s) + 1 := by omega
    have hlt : off + s < cs.toList.length := by simp; omega
    rw [Array.toList_setIfInBounds, e1, List.take_succ_eq_append_getElem (by simp; omega), List.take_set_of_le (by omega), List.drop_set_of_lt (by omega)]
    simp
    omega

/-- The parts of an aggregate, laid by the model. -/
theorem fill_spec (place : Nat → Option (Nat × Nat)) : ∀ (parts : List (Nat × Value)) (places : List (Nat × Nat)) (ds : List DV) (cells : Array Value) (cs cs' : List DL),
    All2 (fun p q => place p.1 = some q) parts places → All2 (fun p d => RepV w O μ h p.2 d) parts ds → All2 (RepD w O μ h) cells.toList cs → fillD cs places ds = some cs' →
    ∃ cells', Instr.fill place cells parts = some cells' ∧ All2 (RepD w O μ h) cells'.toList cs' := by
  intro parts
  induction parts with
  | nil =>
    intro places ds cells cs cs' h1 h2 hc hf
    cases h1; cases h2
    simp only [fillD, Option.some.injEq] at hf; subst hf
    exact ⟨cells, by simp [Instr.fill], hc⟩
  | cons p parts ih =>
    intro places ds cells cs cs' h1 h2 hc hf
    obtain ⟨ix, v⟩ := p
    cases h1 with
    | @cons _ q _ places hp h1 =>
    cases h2 with
    | @cons _ d _ ds hd h2 =>
    obtain ⟨off, sz⟩ := q
    simp only at hp hd
    simp only [fillD] at hf
    cases hdc : d.cells with
    | none => simp [hdc] at hf
    | some dl =>
    simp only [hdc] at hf
    obtain ⟨hb, hf⟩ := cond_or hf
    rw [Bool.and_eq_true] at hb
    have hsz := Nat.eq_of_beq_eq_true hb.1
    have hle := ble_le hb.2
    have hv := hd.cells hdc
    have hvl := hv.length
    have hcl := hc.length
    simp only [Array.length_toList] at hvl hcl
    have hfold := foldl_set v.cells.toList cells off 0 (by simp; omega)
    simp only [Nat.add_zero, Array.length_toList] at hfold
    have hnew : All2 (RepD w O μ h) ((v.cells.toList.zipIdx 0).foldl (fun (cs : Array Value) (x : Value × Nat) => cs.setIfInBounds (off + x.2) x.1) cells).toList (cs.take off ++ dl ++ cs.drop (off + sz)) := by
      rw [hfold, ← hsz, ← hvl]
      exact ((hc.take off).append hv).append (hc.drop _)
    obtain ⟨cells', hfill, hall⟩ := ih places ds _ _ cs' h1 h2 hnew hf
    refine ⟨cells', ?_, hall⟩
    have hcond : (decide (v.cells.size ≠ sz) || decide (off + v.cells.size > cells.size)) = false := by simp; omega
    rw [Instr.fill, hp]
    simp only [hcond, Bool.false_eq_true, if_false]
    have hz : v.cells.zipIdx = (v.cells.toList.zipIdx 0).toArray := by apply Array.ext'; simp
    rw [hz]
    simpa using hfill

theorem sim_build (t : TypeId) (z : List PL) (places : List (Nat × Nat)) (parts : Array (Nat × Operand)) (ρ : Operand → Value) (o : Oper) (ho : o.op = .build t parts) (hz : zeroOf P t = some z)
    (hp : (∃ fs pl, P.underlying t = some (.struct fs) ∧ mapO (fun f : Field => match sizeOfT P f.type with | some s => some (f.offset, s) | none => none) fs.toList = some pl ∧ mapO (fun x : Nat × Operand => pl[x.1]?) parts.toList = some places) ∨
      (∃ m e s, P.underlying t = some (.array m e) ∧ sizeOfT P e = some s ∧ places = parts.toList.map fun x => (x.1 * s, s)))
    (ds : List DV) (hds : All2 (fun y d => RepV w O μ h (ρ y.2) d) parts.toList ds) (r : Res) (hr : opBuild z places ds = some r) (hI : HInv w O μ h) : Sim1 O w μ h n ((execOp ρ o).run P w) r := by
  unfold opBuild at hr
  cases hf : fillD (z.map .p) places ds with
  | none => simp [hf] at hr
  | some cs =>
  simp only [hf, Option.some.injEq] at hr; subst hr
  obtain ⟨i, zv, hi, hzv, hzl, hzs, hzr, hzrep⟩ := zeroOf_spec hz
  have hds' : All2 (fun (p : Nat × Value) d => RepV w O μ h p.2 d) (parts.map fun (x : Nat × Operand) => (x.1, ρ x.2)).toList ds := by
    rw [Array.toList_map]
    generalize parts.toList = pl at hds
    clear hp hf
    induction hds with
    | nil => exact .nil
    | cons q _ ih => exact .cons q ih
  simp only [execOp, ho]
  rcases hp with ⟨fs, pl, ht, hpl, hpp⟩ | ⟨m, e, s, ht, hs, rfl⟩
  · have hplaces : All2 (fun (p : Nat × Value) q => (fun x => pl.toArray[x]?) p.1 = some q) (parts.map fun (x : Nat × Operand) => (x.1, ρ x.2)).toList places := by
      rw [Array.toList_map]
      have := mapO_all2 (R := fun (x : Nat × Operand) q => pl[x.1]? = some q) (fun _ _ e => e) hpp
      clear hf hpp hds hds'
      generalize parts.toList = pt at this
      induction this with
      | nil => exact .nil
      | cons q _ ih => exact .cons (by simpa using q) ih
    obtain ⟨cells', hfill, hall⟩ := fill_spec (fun x => pl.toArray[x]?) _ _ _ zv.cells _ _ hplaces hds' (hzrep _ _ _ _) hf
    have hmap : (Array.mapM (fun f : Field => do pure (f.offset, ← Go.sizeOf f.type)) fs : Sem (Array (Nat × Nat))).run P w = .ok pl.toArray w := by
      have gen : ∀ (l : List Field) (q : List (Nat × Nat)), mapO (fun f : Field => match sizeOfT P f.type with | some s => some (f.offset, s) | none => none) l = some q → (List.mapM (fun f : Field => (do pure (f.offset, ← Go.sizeOf f.type) : Sem (Nat × Nat))) l).run P w = .ok q w := by
        intro l
        induction l with
        | nil => intro q hq; simp [mapO] at hq; subst hq; simp
        | cons f l ih =>
          intro q hq
          simp only [mapO] at hq
          cases hsz : sizeOfT P f.type with
          | none => simp [hsz] at hq
          | some s =>
            simp only [hsz] at hq
            cases hm : mapO (fun f : Field => match sizeOfT P f.type with | some s => some (f.offset, s) | none => none) l with
            | none => simp [hm] at hq
            | some q' =>
              simp only [hm, Option.some.injEq] at hq; subst hq
              have hsr : (Go.sizeOf f.type).run P w = .ok s w := by
                unfold sizeOfT at hsz
                cases hfi : P.info? f.type with
                | none => simp [hfi] at hsz
                | some fi => simp only [hfi, Option.map_some, Option.some.injEq] at hsz; subst hsz; simp [Go.sizeOf, typeInfo, hfi]
              simp only [List.mapM_cons, Sem.run_bind, hsr, Result.andThen_ok, ih _ hm, Sem.run_pure]
      rw [Array.mapM_eq_mapM_toList, Sem.run_map]
      rw [gen _ _ hpl]
      rfl
    refine sim_pure (v := .agg cells') hI (exec_v ?_) ⟨cells'.toList, by simp, hall⟩
    simp only [Instr.build, Sem.run_bind, hzr, Result.andThen_ok, run_underlying ht, hmap, hfill, Sem.run_pure]
  · have hplaces : All2 (fun (p : Nat × Value) q => (fun x => some (x * s, s)) p.1 = some q) (parts.map fun (x : Nat × Operand) => (x.1, ρ x.2)).toList (parts.toList.map fun x => (x.1 * s, s)) := by
      rw [Array.toList_map]
      generalize parts.toList = pt
      induction pt with
      | nil => exact .nil
      | cons q _ ih => exact .cons rfl ih
    obtain ⟨cells', hfill, hall⟩ := fill_spec (fun x => some (x * s, s)) _ _ _ zv.cells _ _ hplaces hds' (hzrep _ _ _ _) hf
    have hsr : (Go.sizeOf e).run P w = .ok s w := by
      unfold sizeOfT at hs
      cases hfi : P.info? e with
      | none => simp [hfi] at hs
      | some fi => simp only [hfi, Option.map_some, Option.some.injEq] at hs; subst hs; simp [Go.sizeOf, typeInfo, hfi]
    refine sim_pure (v := .agg cells') hI (exec_v ?_) ⟨cells'.toList, by simp, hall⟩
    simp only [Instr.build, Sem.run_bind, hzr, Result.andThen_ok, run_underlying ht, hsr, hfill, Sem.run_pure]

end
end Go.Ev
