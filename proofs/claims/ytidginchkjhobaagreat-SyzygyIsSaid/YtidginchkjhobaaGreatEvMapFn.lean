/- Functions that range over a map whose every order has the same outcome: a state that is kept by each round. -/
import Derived.Test.YtidginchkjhobaaGreatEvRmapF
import Derived.Test.YtidginchkjhobaaGreatEvRet
namespace Go.Ev
open Go.RowKit

theorem mapO_all {α β : Type} {f : α → Option β} {p : β → Prop} : ∀ {l : List α}, (∀ x ∈ l, ∃ y, f x = some y ∧ p y) → ∃ ys, mapO f l = some ys ∧ ∀ y ∈ ys, p y
  | [], _ => ⟨[], rfl, fun _ h => by cases h⟩
  | x :: l, h => by
    obtain ⟨y, h1, h2⟩ := h x (by simp)
    obtain ⟨ys, h3, h4⟩ := mapO_all fun z hz => h z (List.mem_cons_of_mem _ hz)
    refine ⟨y :: ys, by simp only [mapO, h1, h3], fun z hz => ?_⟩
    rcases List.mem_cons.1 hz with rfl | hz
    · exact h2
    · exact h4 z hz

theorem picks_perm {α : Type} : ∀ (l : List α) (p : α × List α), p ∈ picks l → (p.1 :: p.2).Perm l
  | [], p, h => by simp [picks] at h
  | x :: l, p, h => by
    simp only [picks, List.mem_cons, List.mem_map] at h
    rcases h with rfl | ⟨q, hq, rfl⟩
    · exact .refl _
    · exact (List.Perm.swap ..).trans ((picks_perm l q hq).cons x)

/-- What each round keeps, all rounds keep. -/
theorem finals_inv {E : Oracle} {K : Nat} {rm : RM} {iid : Nat} (Inv : List (List DL) → St → Prop) (hstep : ∀ l s, Inv l s → ∀ p ∈ picks l, ∃ s', rmRound E K rm iid s p.1 = some s' ∧ Inv p.2 s') :
    ∀ (n : Nat) (l : List (List DL)) (s : St), l.length = n → Inv l s → ∃ ss, finals E K rm iid n l s = some ss ∧ ∀ s ∈ ss, Inv [] s
  | n, [], s, _, hi => ⟨[s], by cases n <;> rfl, fun t ht => by simp at ht; subst ht; exact hi⟩
  | 0, _ :: _, _, h, _ => by simp at h
  | n + 1, c :: cs, s, h, hi => by
    have ih := finals_inv Inv hstep n
    obtain ⟨ls, h1, h2⟩ := mapO_all (f := fun p => match rmRound E K rm iid s p.1 with
      | some s' => finals E K rm iid n p.2 s'
      | none => none) (p := fun ss => ∀ s ∈ ss, Inv [] s) (l := picks (c :: cs)) fun p hp => by
        obtain ⟨s', e1, e2⟩ := hstep _ s hi p hp
        have hl : p.2.length = n := by
          have := (picks_perm _ p hp).length_eq
          simp at this h; omega
        obtain ⟨ss, e3, e4⟩ := ih p.2 s' hl e2
        exact ⟨ss, by simp only [e1, e3], e4⟩
    have h3 : finals E K rm iid (n + 1) (c :: cs) s = (match mapO (fun p => match rmRound E K rm iid s p.1 with
      | some s' => finals E K rm iid n p.2 s'
      | none => none) (picks (c :: cs)) with | some ls => some ls.flatten | none => none) := rfl
    rw [h1] at h3
    refine ⟨ls.flatten, h3, fun t ht => ?_⟩
    obtain ⟨l, hl, ht⟩ := List.mem_flatten.1 ht
    exact h2 l hl t ht

theorem frzB_fz (b : Blk) : (frzB b).fz = true := rfl
theorem live_all_frz (H : List Blk) (O : BS) (μ : Nat → Nat) : Live O μ (HFof (H.map frzB)) = O := by
  funext q
  refine propext ⟨?_, .inl⟩
  rintro (hq | ⟨i, blk, h1, h2, _⟩)
  · exact hq
  · simp only [HFof, List.getElem?_map] at h1
    cases hx : H[i]? with
    | none => simp [hx] at h1
    | some c => simp only [hx, Option.map_some, Option.some.injEq] at h1; subst h1; simp [frzB] at h2

/-- A function of one map alone, whatever other blocks the caller has. -/
theorem CH_map1 {P : Program} {f : Nat} {H : List Blk} {id : Nat} {b : Blk} {r : PV} (h : CH P f [.one (.mp 0)] [frzB b] (inj r) [frzB b]) (hb : H[id]? = some b) (hm : b.mp = true) (hp : ∀ c ∈ b.ch, ∀ d ∈ c, ∃ l, d = .p l) :
    CH P f [.one (.mp id)] H (inj r) (H.map frzB) := by
  intro w O μ vs hI hargs
  obtain ⟨fm, fi⟩ := frz_state (w' := w) hI (List.range H.length) (Nat.le_refl _) (fun _ _ => rfl) rfl rfl rfl
  rw [← HFof_frz] at fm fi
  have hbH : HFof H id = some b := hb
  have hbF : HFof (H.map frzB) id = some (frzB b) := by simp only [HFof, List.getElem?_map]; rw [hb]; rfl
  have hl1 : Live O (fun _ => μ id) (HFof [frzB b]) = O := live_all_frz [b] O _
  have hl2 := live_all_frz H O μ
  have leaf : ∀ v l, RepD w O μ (HFof (H.map frzB)) v (.p l) → RepD w O (fun _ => μ id) (HFof [frzB b]) v (.p l) := by
    intro v l hr
    cases hr with | p _ _ hq => exact .p _ _ (by rw [hl1]; rw [hl2] at hq; exact hq)
  have hI1 : HInv w O (fun _ => μ id) (HFof [frzB b]) := by
    have h0 : ∀ i x, HFof [frzB b] i = some x → i = 0 ∧ x = frzB b := by
      intro i x hx
      cases i with
      | zero => simp [HFof] at hx; exact ⟨rfl, hx.symm⟩
      | succ i => simp [HFof] at hx
    refine ⟨fun i x hx => ?_, fun i j x y hx hy _ => by rw [(h0 i x hx).1, (h0 j y hy).1], fun i x hx => hI.disj id b hbH, hI.lt⟩
    obtain ⟨rfl, rfl⟩ := h0 i x hx
    have hk := fi.blk id _ hbF
    unfold BlkOk at hk ⊢
    have hm' : (frzB b).mp = true := hm
    rw [hm', if_pos rfl] at hk ⊢
    by_cases ht : Nat.beq (frzB b).ty 2 = true
    · rw [if_pos ht] at hk ⊢; exact hk
    · rw [if_neg ht] at hk ⊢
      obtain ⟨es, clk, e1, e2, e3⟩ := hk
      refine ⟨es, clk, e1, e2, All2.of_get e3.length fun i e c he hc => ?_⟩
      obtain ⟨e', he', kv, xv, q1, q2, q3, q4⟩ := e3.get i c hc
      rw [he] at he'; cases he'
      refine ⟨kv, xv, q1, q2, q3, All2.of_get q4.length fun j v d hv hd => ?_⟩
      obtain ⟨l, rfl⟩ := hp c (List.mem_of_getElem? hc) d (List.mem_of_getElem? hd)
      obtain ⟨v', hv', hr⟩ := q4.get j _ hd
      rw [hv] at hv'; cases hv'
      exact leaf _ _ hr
  have hargs1 : All2 (RepV w O (fun _ => μ id) (HFof [frzB b])) vs [.one (.mp 0)] := by
    cases hargs with | cons a1 t => ?_
    cases t
    refine .cons ?_ .nil
    have a1 : RepD w O μ (HFof H) _ (.mp id) := a1
    generalize hvv : (‹Value› : Value) = v1 at a1
    cases a1 with | mp _ _ _ _ => exact RepD.mp 0 (frzB b) rfl hm
  refine (h w O (fun _ => μ id) vs hI1 hargs1).mono fun e w' ⟨v, μ', he, hv, hI2, hM⟩ => ?_
  have hl3 : Live O μ' (HFof [frzB b]) = O := live_all_frz [b] O _
  have hblk : ∀ k, k < w.heap.size → w'.heap[k]? = w.heap[k]? := by
    intro k hk
    by_cases ho : O k
    · exact hM.okeep k ho
    · exact hM.keeps.keep k hk (by rw [hl1]; exact ho)
  obtain ⟨gm, gi⟩ := grow_state (w' := w') fi hM.keeps.size hblk hM.os hM.tape hM.output
  refine ⟨v, μ, he, inj_of (fun v l hq => ?_) hv, gi, fm.trans gm⟩
  rw [hl3] at hq; rw [hl2]; exact hq

end Go.Ev
