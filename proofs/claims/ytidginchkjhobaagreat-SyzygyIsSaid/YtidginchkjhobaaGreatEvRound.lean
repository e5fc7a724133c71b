/- Blocks that hold neither cells nor a map may turn: what stands for something stands for it still. -/
import Derived.Test.YtidginchkjhobaaGreatEvReg
namespace Go.Ev
open Go.RowKit
section
variable {lo : Nat} {P : Program} {O : BS} {w w' : World} {μ : Nat → Nat} {h : HF}

/-- Whatever holds cells or a map lies as it lay. -/
structure SameData (w w' : World) : Prop where
  size : w.heap.size ≤ w'.heap.size
  cells : ∀ (b : Nat) (C : Array Value) (T : TypeId) (z : Nat × Nat), w.heap[b]? = some (.cells C T z) → w'.heap[b]? = some (.cells C T z)
  maps : ∀ (b : Nat) (es : Array MapEntry) (clk : Nat), w.heap[b]? = some (.map es clk) → w'.heap[b]? = some (.map es clk)
  dull : ∀ (b : Nat) (o : Obj), w.heap[b]? = some o → Dull o → ∃ o', w'.heap[b]? = some o' ∧ Dull o'

theorem SameData.cell (s : SameData w w') {a : Addr} {v : Value} (hc : w.cell? a = some v) : w'.cell? a = some v := by
  unfold World.cell? at hc ⊢
  cases ho : w.heap[a.block]? with
  | none => simp [ho] at hc
  | some o =>
    cases o with
    | cells C T z => rw [ho] at hc; rw [s.cells _ C T z ho]; exact hc
    | _ => simp [ho] at hc

theorem RepP.same (s : SameData w w') {L : BS} {v : Value} {l : PL} (r : RepP w L v l) : RepP w' L v l := by
  induction r with
  | bool b => exact .bool b
  | int a n => exact .int a n
  | nilS => exact .nilS
  | str x => exact .str x
  | junk v h => exact .junk v h
  | fn f caps cv hl hc ih => exact .fn f caps cv hl ih
  | ref b off cs vals ho hc hr ih => exact .ref b off cs vals ho (fun j d hj => s.cell (hc j d hj)) ih
  | lst b off sz cap es vals ho hcap hs hc hr hsp ih => exact .lst b off sz cap es vals ho hcap hs (fun i c j d hi hj => s.cell (hc i c j d hi hj)) ih hsp

theorem RepD.same (s : SameData w w') {v : Value} {l : DL} (r : RepD w O μ h v l) : RepD w' O μ h v l := by
  induction r with
  | p v l hp => exact .p v l (hp.same s)
  | own id ver off len b g o cap hb hv hl hs =>
    refine .own id ver off len b g o cap hb hv hl fun e => ?_
    obtain ⟨h1, C, T, hC, hd⟩ := hs e
    exact ⟨h1, C, T, s.cells _ _ _ _ hC, hd⟩
  | ptr id ver i off b g o hb hv hs => exact .ptr id ver i off b g o hb hv hs
  | fn f caps cv hl hc ih => exact .fn f caps cv hl ih
  | mp id b hb hm => exact .mp id b hb hm

theorem RepV1.same (s : SameData w w') {v : Value} {d : DV} (r : RepV1 w O μ h v d) : RepV1 w' O μ h v d := by
  cases d with
  | one l => exact RepD.same s r
  | agg cs => obtain ⟨xs, hv, ha⟩ := r; exact ⟨xs, hv, ha.imp fun _ _ => RepD.same s⟩
  | tup ds => exact r

theorem RepV.same (s : SameData w w') {v : Value} {d : DV} (r : RepV w O μ h v d) : RepV w' O μ h v d := by
  cases d with
  | one l => exact RepV1.same (d := .one l) s r
  | agg cs => exact RepV1.same (d := .agg cs) s r
  | tup ds => obtain ⟨xs, hv, ha⟩ := r; exact ⟨xs, hv, ha.imp fun _ _ => RepV1.same s⟩

theorem BlkOk.same (s : SameData w w') {id : Nat} {b : Blk} (hb : BlkOk w O μ h id b) : BlkOk w' O μ h id b := by
  unfold BlkOk at hb ⊢
  cases hm : b.mp
  · rw [hm] at hb
    simp only [Bool.false_eq_true, if_false] at hb ⊢
    obtain ⟨C, hC, hl, hc⟩ := hb
    refine ⟨C, s.cells _ _ _ _ hC, hl, fun i c hi => ⟨(hc i c hi).1, fun j d hj => ?_⟩⟩
    obtain ⟨v, hv, hr⟩ := (hc i c hi).2 j d hj
    exact ⟨v, hv, hr.same s⟩
  · rw [hm] at hb
    simp only [if_true] at hb ⊢
    cases hty : Nat.beq b.ty 2
    case true =>
      rw [hty, if_pos rfl] at hb
      rw [if_pos rfl]
      obtain ⟨o, ho, hd⟩ := hb
      exact s.dull _ o ho hd
    rw [hty, if_neg (by simp)] at hb
    rw [if_neg (by simp)]
    obtain ⟨es, clk, hC, hv, ha⟩ := hb
    exact ⟨es, clk, s.maps _ _ _ hC, hv, ha.imp fun x c ⟨kv, xv, h1, h2, h3, h4⟩ => ⟨kv, xv, h1, h2, h3, h4.imp fun _ _ => RepD.same s⟩⟩

theorem HInv.same (s : SameData w w') (hI : HInv w O μ h) : HInv w' O μ h :=
  ⟨fun id b hb => (hI.blk id b hb).same s, hI.inj, hI.disj, fun b hb => Nat.lt_of_lt_of_le (hI.lt b hb) s.size⟩

/-- One block, neither cells nor a map, has turned. -/
theorem same_putObj {l : Nat} {o : Obj} (hl : w.heap[l]? = some o) (hd : Dull o) {o' : Obj} (hd' : Dull o') : SameData w (w.putObj l o') := by
  have hlt : l < w.heap.size := (Array.getElem?_eq_some_iff.1 hl).1
  refine ⟨by simp [World.putObj], fun b C T z hb => ?_, fun b es clk hb => ?_, fun b x hb hx => ?_⟩
  · have : b ≠ l := fun e => by rw [e, hl] at hb; cases hb; exact hd.1 _ _ _ rfl
    rw [World.putObj_heap_other this]; exact hb
  · have : b ≠ l := fun e => by rw [e, hl] at hb; cases hb; exact hd.2 _ _ rfl
    rw [World.putObj_heap_other this]; exact hb
  · by_cases e : b = l
    · subst e; exact ⟨o', World.putObj_heap_same hlt, hd'⟩
    · exact ⟨x, by rw [World.putObj_heap_other e]; exact hb, hx⟩

theorem mono_putObj {W : World} {μ' : Nat → Nat} {h' : HF} (hI : HInv w O μ h) (m : Mono O w μ h W μ' h') {l : Nat} (hlw : w.heap.size ≤ l) (o' : Obj) : Mono O w μ h (W.putObj l o') μ' h' := by
  have hne : ∀ b, b < w.heap.size → (W.putObj l o').heap[b]? = W.heap[b]? := fun b hb => World.putObj_heap_other (fun e => by omega)
  refine ⟨m.os, m.tape, m.output, ⟨by simp only [World.putObj, Array.size_setIfInBounds]; exact m.keeps.size, fun b hb hl => (hne b hb).trans (m.keeps.keep b hb hl), m.keeps.live⟩, fun b hb => (hne b (hI.lt b hb)).trans (m.okeep b hb), fun id b hb => ?_, m.maps⟩
  obtain ⟨b', h1, h2, h3, h4⟩ := m.ids id b hb
  refine ⟨b', h1, h2, h3, fun e => ?_⟩
  obtain ⟨g1, g2, g3⟩ := h4 e
  refine ⟨g1, g2, fun C T hC => ?_⟩
  obtain ⟨C', k1, k2⟩ := g3 C T hC
  exact ⟨C', (hne _ (hI.lt_size hb)).trans k1, k2⟩

theorem Slots.same {nt : Nat} {a : Act} {T : List (Nat × DV)} (s : Slots lo nt O w μ h a T) {l : Nat} {o : Obj} (hl : w.heap[l]? = some o) (hd : Dull o) (hnd : ∀ x, o ≠ .deferred x) {o' : Obj} (hd' : Dull o') : Slots lo nt O (w.putObj l o') μ h a T := by
  have sd := same_putObj hl hd hd'
  refine ⟨⟨Nat.le_trans s.dfr.1 sd.size, s.dfr.2.1, fun d hd' => ?_⟩, s.sz, fun t d ht => (s.slot t d ht).same sd⟩
  obtain ⟨D, h1, h2, h3, h4⟩ := s.dfr.2.2 d hd'
  refine ⟨D, h1, h2, ?_, h4⟩
  have : D ≠ l := fun e => by rw [e, hl] at h3; cases h3; exact hnd _ rfl
  rw [World.putObj_heap_other this]; exact h3

end
end Go.Ev
