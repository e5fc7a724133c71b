/- Freezing: a reference into the call's own blocks as a pure value. -/
import Derived.Test.YthmlggklnfmidaaGreatEvHeap
namespace Go.Ev
section
variable {P : Program} {O : BS} {w : World} {μ : Nat → Nat} {h : HF} {n : Nat}

theorem RepP.anti {L L' : BS} (hs : ∀ b, L' b → L b) {v : Value} {l : PL} (r : RepP w L v l) : RepP w L' v l := by
  induction r with
  | bool b => exact .bool b
  | int a n => exact .int a n
  | nilS => exact .nilS
  | str s => exact .str s
  | junk v h => exact .junk v h
  | fn f caps cv hl hc ih => exact .fn f caps cv hl ih
  | ref b off cs vals ho hc hr ih => exact .ref b off cs vals (fun j d hj hb => ho j d hj (hs _ hb)) hc ih
  | lst b off sz cap es vals ho hcap hsz hc hr hsp ih => exact .lst b off sz cap es vals (fun i c j d hi hj hb => ho i c j d hi hj (hs _ hb)) hcap hsz hc ih hsp

theorem mapO_get {α β : Type} {f : α → Option β} {xs : List α} {ys : List β} (hm : mapO f xs = some ys) : xs.length = ys.length ∧ ∀ (i : Nat) (y : β), ys[i]? = some y → ∃ x, xs[i]? = some x ∧ f x = some y := by
  have ha := mapO_all2 (R := fun x y => f x = some y) (fun _ _ e => e) hm
  exact ⟨ha.length, fun i y hy => ha.get i y hy⟩

/-- The empty heap. -/
def h0 : HF := fun _ => none
def μ0 : Nat → Nat := fun _ => 0

theorem live_h0 (L : BS) : Live L μ0 h0 = L := by
  funext b; simp [Live, h0]

theorem freezeL_rep (hI : HInv w O μ h) (L : BS) (hL : ∀ b, L b → Live O μ h b) : ∀ (k : Nat) (l : DL) (pl : PL) (v : Value), RepD w O μ h v l → freezeL k h l = some pl → (∀ id ∈ idsL k h l, ¬ L (μ id)) → RepP w L v pl := by
  intro k
  induction k with
  | zero =>
    intro l pl v hr hf _
    cases hr with
    | p v l hp => simp only [freezeL, Option.some.injEq] at hf; subst hf; exact hp.anti hL
    | own => simp [freezeL] at hf
    | ptr => simp [freezeL] at hf
    | fn => simp [freezeL] at hf
    | mp => simp [freezeL] at hf
  | succ k ih =>
    intro l pl v hr hf hids
    cases hr with
    | p v l hp => simp only [freezeL, Option.some.injEq] at hf; subst hf; exact hp.anti hL
    | mp => simp [freezeL] at hf
    | fn f caps cv hl hc =>
      simp only [freezeL] at hf
      cases hm : mapO (freezeL k h) caps with
      | none => simp [hm] at hf
      | some cs =>
      simp only [hm, Option.some.injEq] at hf; subst hf
      obtain ⟨hlen, hget⟩ := mapO_get hm
      refine .fn f cs cv (by omega) fun i d v hd hv => ?_
      obtain ⟨x, hx, hfx⟩ := hget i d hd
      refine ih x d v (hc i x v hx hv) hfx fun id hid => hids id ?_
      simp only [idsL]
      exact List.mem_flatMap.2 ⟨x, List.mem_of_getElem? hx, hid⟩
    | own id ver off len b g o cap hb hv hl hs =>
      simp only [freezeL, hb] at hf
      obtain ⟨hcond, hf2⟩ := cond_or hf
      simp only [Bool.and_eq_true] at hcond
      have hver := Nat.eq_of_beq_eq_true hcond.1.1
      have hmp : b.mp = false := by simpa using hcond.1.2
      have hle := ble_le hcond.2
      cases hm : mapO (mapO (freezeL k h)) ((b.ch.drop off).take len) with
      | none => simp [hm] at hf2
      | some es =>
      simp only [hm, Option.some.injEq] at hf2; subst hf2
      obtain ⟨hlen, hget⟩ := mapO_get hm
      have hel : es.length = len := by rw [← hlen]; simp; omega
      obtain ⟨rfl, C, T, hC, hd⟩ := hs hver.symm
      obtain ⟨C2, hC2, hcl, hcs⟩ := (hI.blk id b hb).cells hmp
      rw [hC] at hC2; cases hC2
      have hnot : ¬ L (μ id) := hids id (by simp only [idsL, hb]; exact List.mem_cons_self ..)
      have hfact : ∀ (i : Nat) (c : List PL), es[i]? = some c → ∃ x, b.ch[off + i]? = some x ∧ mapO (freezeL k h) x = some c ∧ i < len := by
        intro i c hi
        obtain ⟨x, hx, hfx⟩ := hget i c hi
        rw [List.getElem?_take] at hx
        split at hx
        · rw [List.getElem?_drop] at hx; exact ⟨x, hx, hfx, by assumption⟩
        · simp at hx
      rw [← hel]
      refine .lst (μ id) o b.sz cap es (fun i j => C[o + i * b.sz + j]?.getD (.bool true)) (fun i c j d _ _ => hnot) (by omega) (fun i c hi => ?_) (fun i c j d hi hj => ?_) (fun i c j d hi hj => ?_) (.inr rfl)
      · obtain ⟨x, hx, hfx, _⟩ := hfact i c hi
        rw [← (mapO_get hfx).1]; exact (hcs _ x hx).1
      all_goals
        obtain ⟨x, hx, hfx, hilt⟩ := hfact i c hi
        obtain ⟨y, hy, hfy⟩ := (mapO_get hfx).2 j d hj
        obtain ⟨u, hu, hru⟩ := (hcs _ x hx).2 j y hy
        have ho : o = off * b.sz := by
          rcases hd with ⟨h1, _⟩ | ⟨h1, _⟩
          · exact h1
          · omega
        have hpos : C[o + i * b.sz + j]? = some u := by rw [← hu, ho]; congr 1; rw [Nat.add_mul]
      · simp only [World.cell?, hC, hpos]; simp
      · simp only [hpos, Option.getD_some]
        refine ih y d u hru hfy fun id2 hid2 => hids id2 ?_
        simp only [idsL, hb]
        refine List.mem_cons_of_mem _ (List.mem_flatMap.2 ⟨x, ?_, List.mem_flatMap.2 ⟨y, List.mem_of_getElem? hy, hid2⟩⟩)
        refine List.mem_of_getElem? (i := i) ?_
        rw [List.getElem?_take, if_pos hilt, List.getElem?_drop]; exact hx
    | ptr id ver i off b g o hb hv hs =>
      simp only [freezeL, hb] at hf
      obtain ⟨hcond, hf2⟩ := cond_or hf
      simp only [Bool.and_eq_true] at hcond
      have hver := Nat.eq_of_beq_eq_true hcond.1
      have hmp : b.mp = false := by simpa using hcond.2
      cases hch : b.ch[i]? with
      | none => simp [hch] at hf2
      | some c =>
      simp only [hch] at hf2
      cases hm : mapO (freezeL k h) (c.drop off) with
      | none => simp [hm] at hf2
      | some cs =>
      simp only [hm, Option.some.injEq] at hf2; subst hf2
      obtain ⟨hlen, hget⟩ := mapO_get hm
      obtain ⟨rfl, rfl⟩ := hs hver.symm
      have hnot : ¬ L (μ id) := hids id (by simp only [idsL, hb, hch]; exact List.mem_cons_self ..)
      have hcells := chunk_cells hI hb hmp hch off
      refine .ref (μ id) (i * b.sz + off) cs (fun j => (w.cell? ⟨μ id, i * b.sz + off + j, none⟩).getD (.bool true)) (fun _ _ _ => hnot) (fun j d hj => ?_) (fun j d hj => ?_)
      all_goals
        obtain ⟨x, hx, hfx⟩ := hget j d hj
        obtain ⟨u, hu, hru⟩ := hcells j x hx
      · simp only [hu, Option.getD_some]
      · simp only [hu, Option.getD_some]
        refine ih x d u hru hfx fun id2 hid2 => hids id2 ?_
        simp only [idsL, hb, hch]
        exact List.mem_cons_of_mem _ (List.mem_flatMap.2 ⟨x, List.mem_of_getElem? hx, hid2⟩)

theorem freezeV1_rep (hI : HInv w O μ h) (L : BS) (hL : ∀ b, L b → Live O μ h b) (d : DV) (p : PV) (v : Value) (hr : RepV w O μ h v d) (hf : freezeV1 h d = some p) (hids : ∀ id ∈ idsV h d, ¬ L (μ id)) : RepV w L μ0 h0 v (inj p) := by
  cases d with
  | tup _ => simp [freezeV1] at hf
  | one l =>
    simp only [freezeV1] at hf
    cases hl : freezeL freezeDepth h l with
    | none => simp [hl] at hf
    | some pl =>
    simp only [hl, Option.some.injEq] at hf; subst hf
    have := freezeL_rep hI L hL _ l pl v hr hl hids
    exact RepD.p _ _ (by rw [live_h0]; exact this)
  | agg cs =>
    simp only [freezeV1] at hf
    cases hl : mapO (freezeL freezeDepth h) cs with
    | none => simp [hl] at hf
    | some pls =>
    simp only [hl, Option.some.injEq] at hf; subst hf
    obtain ⟨xs, rfl, ha⟩ := hr
    refine ⟨xs, rfl, ?_⟩
    obtain ⟨hlen, hget⟩ := mapO_get hl
    refine All2.of_get (by rw [ha.length, hlen]; simp) fun i x y hx hy => ?_
    rw [List.getElem?_map] at hy
    cases hp : pls[i]? with
    | none => simp [hp] at hy
    | some pl =>
    simp only [hp, Option.map_some, Option.some.injEq] at hy; subst hy
    obtain ⟨c, hc, hfc⟩ := hget i pl hp
    obtain ⟨x', hx', hrx⟩ := ha.get i c hc
    rw [hx] at hx'; cases hx'
    have hp2 : RepP w L x pl := by
      refine freezeL_rep hI L hL _ c pl x hrx hfc fun id hid => hids id ?_
      simp only [idsV]
      exact List.mem_flatMap.2 ⟨c, List.mem_of_getElem? hc, hid⟩
    exact RepD.p _ _ (by rw [live_h0]; exact hp2)

end
end Go.Ev
