/- Polynomials in order: plain facts. -/
import Derived.Test.YtidginchkjhobaaGreatMap
namespace Go.Proofs.YtidginchkjhobaaGreat
open Go.Ev Go.Num

/-- Sorted strictly, with coefficients other than 0. -/
structure Dc (ts : List Tm) : Prop where
  nz : ∀ t ∈ ts, t.1 ≠ 0
  pw : ts.Pairwise fun t u => cmpL t.2 u.2 = .ofNat 1
theorem Dec.dc : ∀ {ts : List Tm}, W8 ts → Dec ts → Dc ts
  | [], _, _ => ⟨(fun _ h => by cases h), .nil⟩
  | [t], _, h => ⟨fun u hu => by simp at hu; subst hu; exact h, by simp⟩
  | t :: u :: ts, hw, h => by
    obtain ⟨h1, h2, h3⟩ := h
    have hw' : W8 (u :: ts) := fun x hx => hw x (List.mem_cons_of_mem _ hx)
    have ih := Dec.dc hw' h3
    refine ⟨fun x hx => ?_, List.pairwise_cons.2 ⟨fun x hx => ?_, ih.pw⟩⟩
    · rcases List.mem_cons.1 hx with rfl | hx
      · exact h1
      · exact ih.nz x hx
    · rcases List.mem_cons.1 hx with rfl | hx
      · exact h2
      · have h4 := (List.pairwise_cons.1 ih.pw).1 x hx
        refine cmpL_trans ?_ ?_ h2 h4
        · rw [hw t (by simp), hw u (by simp)]
        · rw [hw u (by simp), hw x (by simp [hx])]
theorem Dc.tail {t : Tm} {ts : List Tm} (h : Dc (t :: ts)) : Dc ts := ⟨fun x hx => h.nz x (List.mem_cons_of_mem _ hx), (List.pairwise_cons.1 h.pw).2⟩
theorem Dc.nil : Dc [] := ⟨(fun _ h => by cases h), .nil⟩
theorem Dc.cons {t : Tm} {ts : List Tm} (h0 : t.1 ≠ 0) (h : Dc ts) (h1 : ∀ u ∈ ts, cmpL t.2 u.2 = .ofNat 1) : Dc (t :: ts) :=
  ⟨fun x hx => (List.mem_cons.1 hx).elim (fun e => e ▸ h0) (h.nz x), List.pairwise_cons.2 ⟨h1, h.pw⟩⟩
/-- No terms but for 0. -/
theorem Dc.zero {ts : List Tm} (h : Dc ts) (hz : ∀ φ, pair ts φ = 0) : ts = [] := by
  cases ts with
  | nil => rfl
  | cons t ts =>
    exfalso
    have h1 := hz fun m => if m = t.2 then 1 else 0
    have h2 : pair ts (fun m => if m = t.2 then 1 else 0) = 0 := by
      have : ∀ us : List Tm, (∀ u ∈ us, u.2 ≠ t.2) → pair us (fun m => if m = t.2 then 1 else 0) = 0 := by
        intro us
        induction us with
        | nil => intro _; rfl
        | cons u us ih =>
          intro hu
          simp only [pair, if_neg (hu u (List.mem_cons_self ..)), ih fun x hx => hu x (List.mem_cons_of_mem _ hx)]
          simp
      refine this ts fun u hu e => ?_
      have h3 := (List.pairwise_cons.1 h.pw).1 u hu
      rw [e, cmpL_self] at h3
      simp at h3
    simp only [pair, h2, if_true] at h1
    have := h.nz t (List.mem_cons_self ..)
    omega

theorem mem_addT : ∀ (n : Nat) {ts us : List Tm} {x : Tm}, ts.length + us.length ≤ n → W8 ts → W8 us → x ∈ addT ts us → (∃ t ∈ ts, t.2 = x.2) ∨ ∃ u ∈ us, u.2 = x.2
  | _, [], us, x, _, _, _, h => by rw [addT_nil_left] at h; exact .inr ⟨x, h, rfl⟩
  | _, t :: ts, [], x, _, _, _, h => by rw [addT_nil_right] at h; exact .inl ⟨x, h, rfl⟩
  | 0, _ :: _, _ :: _, _, h, _, _, _ => by simp at h
  | n + 1, t :: ts, u :: us, x, hn, h1, h2, h => by
    have k1 : W8 ts := fun x hx => h1 x (List.mem_cons_of_mem _ hx)
    have k2 : W8 us := fun x hx => h2 x (List.mem_cons_of_mem _ hx)
    simp only [List.length_cons] at hn
    rw [addT_cons] at h
    split at h
    · rcases List.mem_cons.1 h with rfl | h
      · exact .inl ⟨_, List.mem_cons_self .., rfl⟩
      · rcases mem_addT n (by simp; omega) k1 h2 h with ⟨y, hy, e⟩ | ⟨y, hy, e⟩
        · exact .inl ⟨y, List.mem_cons_of_mem _ hy, e⟩
        · exact .inr ⟨y, hy, e⟩
    · split at h
      · rcases List.mem_cons.1 h with rfl | h
        · exact .inr ⟨_, List.mem_cons_self .., rfl⟩
        · rcases mem_addT n (by simp; omega) h1 k2 h with ⟨y, hy, e⟩ | ⟨y, hy, e⟩
          · exact .inl ⟨y, hy, e⟩
          · exact .inr ⟨y, List.mem_cons_of_mem _ hy, e⟩
      · have key : x ∈ addT ts us → (∃ y ∈ t :: ts, y.2 = x.2) ∨ ∃ y ∈ u :: us, y.2 = x.2 := by
          intro h
          rcases mem_addT n (by omega) k1 k2 h with ⟨y, hy, e⟩ | ⟨y, hy, e⟩
          · exact .inl ⟨y, List.mem_cons_of_mem _ hy, e⟩
          · exact .inr ⟨y, List.mem_cons_of_mem _ hy, e⟩
        split at h
        · exact key h
        · rcases List.mem_cons.1 h with rfl | h
          · exact .inl ⟨t, List.mem_cons_self .., rfl⟩
          · exact key h
theorem w8_addT {ts us : List Tm} (h1 : W8 ts) (h2 : W8 us) : W8 (addT ts us) := by
  intro x hx
  rcases mem_addT _ (Nat.le_refl _) h1 h2 hx with ⟨y, hy, e⟩ | ⟨y, hy, e⟩
  · rw [← e]; exact h1 y hy
  · rw [← e]; exact h2 y hy

theorem dc_addT : ∀ (n : Nat) {ts us : List Tm}, ts.length + us.length ≤ n → W8 ts → W8 us → Dc ts → Dc us → Dc (addT ts us)
  | _, [], us, _, _, _, _, h => by rw [addT_nil_left]; exact h
  | _, t :: ts, [], _, _, _, h, _ => by rw [addT_nil_right]; exact h
  | 0, _ :: _, _ :: _, h, _, _, _, _ => by simp at h
  | n + 1, t :: ts, u :: us, hn, h1, h2, d1, d2 => by
    have k1 : W8 ts := fun x hx => h1 x (List.mem_cons_of_mem _ hx)
    have k2 : W8 us := fun x hx => h2 x (List.mem_cons_of_mem _ hx)
    have l1 := h1 t (List.mem_cons_self ..)
    have l2 := h2 u (List.mem_cons_self ..)
    have p1 := (List.pairwise_cons.1 d1.pw).1
    have p2 := (List.pairwise_cons.1 d2.pw).1
    simp only [List.length_cons] at hn
    rw [addT_cons]
    split
    · rename_i e
      refine Dc.cons (d1.nz t (List.mem_cons_self ..)) (dc_addT n (by simp; omega) k1 h2 d1.tail d2) fun x hx => ?_
      rcases mem_addT _ (Nat.le_refl _) k1 h2 hx with ⟨y, hy, e'⟩ | ⟨y, hy, e'⟩
      · rw [← e']; exact p1 y hy
      · rw [← e']
        rcases List.mem_cons.1 hy with rfl | hy
        · exact e
        · exact cmpL_trans (by omega) (by rw [l2, k2 y hy]) e (p2 y hy)
    · split
      · rename_i e
        have e := (cmpL_flip u.2 t.2).1 e
        refine Dc.cons (d2.nz u (List.mem_cons_self ..)) (dc_addT n (by simp; omega) h1 k2 d1 d2.tail) fun x hx => ?_
        rcases mem_addT _ (Nat.le_refl _) h1 k2 hx with ⟨y, hy, e'⟩ | ⟨y, hy, e'⟩
        · rw [← e']
          rcases List.mem_cons.1 hy with rfl | hy
          · exact e
          · exact cmpL_trans (by omega) (by rw [l1, k1 y hy]) e (p1 y hy)
        · rw [← e']; exact p2 y hy
      · rename_i a b
        have e : cmpL t.2 u.2 = .ofNat 0 := by
          rcases cmpL_cases t.2 u.2 with q | q | q
          · exact absurd q a
          · exact absurd q b
          · exact q
        have e2 := cmpL_zero (by omega) e
        have ih := dc_addT n (by omega) k1 k2 d1.tail d2.tail
        split
        · exact ih
        · rename_i z
          refine Dc.cons z ih fun x hx => ?_
          rcases mem_addT _ (Nat.le_refl _) k1 k2 hx with ⟨y, hy, e'⟩ | ⟨y, hy, e'⟩
          · rw [← e']; exact p1 y hy
          · rw [← e']; simp only []; rw [e2]; exact p2 y hy

theorem addM_len {m n : List Nat} (hm : m.length = 8) (hn : n.length = 8) : (addM m n).length = 8 := by simp [addM, hm, hn]
theorem cmpL_addM : ∀ (m a b : List Nat), m.length = a.length → a.length = b.length → cmpL (addM m a) (addM m b) = cmpL a b
  | [], [], [], _, _ => rfl
  | [], _ :: _, _, h, _ => by simp at h
  | _ :: _, [], _, h, _ => by simp at h
  | _, [], _ :: _, _, h => by simp at h
  | _, _ :: _, [], _, h => by simp at h
  | x :: m, y :: a, z :: b, h1, h2 => by
    have ih := cmpL_addM m a b (by simpa using h1) (by simpa using h2)
    unfold addM at ih ⊢
    simp only [List.zipWith_cons_cons, cmpL]
    by_cases q1 : y < z
    · rw [if_pos q1, if_pos (by omega)]
    · rw [if_neg q1, if_neg (by omega)]
      by_cases q2 : z < y
      · rw [if_pos q2, if_pos (by omega)]
      · rw [if_neg q2, if_neg (by omega)]; exact ih
theorem w8_timesT {z : Int} {m : List Nat} (hm : m.length = 8) {ts : List Tm} (h : W8 ts) : W8 (timesT z m ts) := by
  intro x hx
  simp only [timesT, List.mem_map] at hx
  obtain ⟨t, ht, rfl⟩ := hx
  exact addM_len hm (h t ht)
theorem dc_timesT {z : Int} (hz : z ≠ 0) {m : List Nat} (hm : m.length = 8) : ∀ {ts : List Tm}, W8 ts → Dc ts → Dc (timesT z m ts)
  | [], _, _ => Dc.nil
  | t :: ts, hw, h => by
    have k1 : W8 ts := fun x hx => hw x (List.mem_cons_of_mem _ hx)
    have ih := dc_timesT hz hm k1 h.tail
    refine Dc.cons (t := (z * t.1, addM m t.2)) (Int.mul_ne_zero hz (h.nz t (List.mem_cons_self ..))) ih fun x hx => ?_
    simp only [List.mem_map] at hx
    obtain ⟨u, hu, rfl⟩ := hx
    have l1 := hw t (List.mem_cons_self ..)
    have l2 := k1 u hu
    simp only []
    rw [cmpL_addM m t.2 u.2 (by omega) (by omega)]
    exact (List.pairwise_cons.1 h.pw).1 u hu
theorem w8_mulT : ∀ {ts us acc : List Tm}, W8 ts → W8 us → W8 acc → W8 (mulT acc ts us)
  | [], _, _, _, _, h => h
  | t :: ts, us, acc, h1, h2, h3 => by
    simp only [mulT]
    exact w8_mulT (fun x hx => h1 x (List.mem_cons_of_mem _ hx)) h2 (w8_addT h3 (w8_timesT (h1 t (List.mem_cons_self ..)) h2))
theorem dc_mulT : ∀ {ts us acc : List Tm}, W8 ts → W8 us → W8 acc → (∀ t ∈ ts, t.1 ≠ 0) → Dc us → Dc acc → Dc (mulT acc ts us)
  | [], _, _, _, _, _, _, _, h => h
  | t :: ts, us, acc, h1, h2, h3, h4, h5, h6 => by
    simp only [mulT]
    have l := h1 t (List.mem_cons_self ..)
    exact dc_mulT (fun x hx => h1 x (List.mem_cons_of_mem _ hx)) h2 (w8_addT h3 (w8_timesT l h2)) (fun x hx => h4 x (List.mem_cons_of_mem _ hx)) h5 (dc_addT _ (Nat.le_refl _) h3 (w8_timesT l h2) h6 (dc_timesT (h4 t (List.mem_cons_self ..)) l h2 h5))
theorem pair_mulT (φ : List Nat → Int) : ∀ {ts us acc : List Tm}, W8 ts → W8 us → W8 acc → pair (mulT acc ts us) φ = pair acc φ + pair ts fun m => pair us fun k => φ (addM m k)
  | [], us, acc, _, _, _ => by simp [mulT, pair]
  | t :: ts, us, acc, h1, h2, h3 => by
    have l := h1 t (List.mem_cons_self ..)
    simp only [mulT]
    rw [pair_mulT φ (fun x hx => h1 x (List.mem_cons_of_mem _ hx)) h2 (w8_addT h3 (w8_timesT l h2)), pair_add φ _ _ _ (Nat.le_refl _) h3 (w8_timesT l h2), pair_times]
    simp only [pair]; omega

/-- Exponents up to a bound. -/
def Ex (e : Nat) (ts : List Tm) : Prop := ∀ t ∈ ts, t.2.length = 8 ∧ ∀ x ∈ t.2, x ≤ e
theorem Ex.w8 {e : Nat} {ts : List Tm} (h : Ex e ts) : W8 ts := fun t ht => (h t ht).1
theorem Ex.addT {e f : Nat} {ts us : List Tm} (h1 : Ex e ts) (h2 : Ex f us) : Ex (max e f) (addT ts us) := by
  intro x hx
  rcases mem_addT _ (Nat.le_refl _) h1.w8 h2.w8 hx with ⟨y, hy, e⟩ | ⟨y, hy, e⟩
  · rw [← e]; exact ⟨(h1 y hy).1, fun z hz => Nat.le_trans ((h1 y hy).2 z hz) (Nat.le_max_left ..)⟩
  · rw [← e]; exact ⟨(h2 y hy).1, fun z hz => Nat.le_trans ((h2 y hy).2 z hz) (Nat.le_max_right ..)⟩
theorem addM_le {e f : Nat} : ∀ {m n : List Nat}, (∀ x ∈ m, x ≤ e) → (∀ x ∈ n, x ≤ f) → ∀ x ∈ addM m n, x ≤ e + f
  | [], _, _, _, x, hx => by simp [addM] at hx
  | _ :: _, [], _, _, x, hx => by simp [addM] at hx
  | a :: m, b :: n, h1, h2, x, hx => by
    unfold addM at hx
    rw [List.zipWith_cons_cons] at hx
    rcases List.mem_cons.1 hx with rfl | hx
    · have := h1 a (List.mem_cons_self ..); have := h2 b (List.mem_cons_self ..); omega
    · exact addM_le (fun y hy => h1 y (List.mem_cons_of_mem _ hy)) (fun y hy => h2 y (List.mem_cons_of_mem _ hy)) x hx
theorem Ex.ok {e f : Nat} (hef : e + f ≤ 65535) {ts us : List Tm} (h1 : Ex e ts) (h2 : Ex f us) : ∀ t ∈ ts, ∀ u ∈ us, MoOk (addM t.2 u.2) := fun t ht u hu =>
  ⟨addM_len (h1 t ht).1 (h2 u hu).1, fun x hx => Nat.le_trans (addM_le (h1 t ht).2 (h2 u hu).2 x hx) hef⟩
theorem Ex.timesT {e f : Nat} {z : Int} {m : List Nat} (hm : m.length = 8) (hm2 : ∀ x ∈ m, x ≤ e) {us : List Tm} (h : Ex f us) : Ex (e + f) (timesT z m us) := by
  intro x hx
  simp only [Go.Num.timesT, List.mem_map] at hx
  obtain ⟨t, ht, rfl⟩ := hx
  exact ⟨addM_len hm (h t ht).1, addM_le hm2 (h t ht).2⟩
theorem Ex.mono {e f : Nat} (hef : e ≤ f) {ts : List Tm} (h : Ex e ts) : Ex f ts := fun t ht => ⟨(h t ht).1, fun x hx => Nat.le_trans ((h t ht).2 x hx) hef⟩
theorem Ex.mulT {e f : Nat} : ∀ {ts us acc : List Tm}, Ex e ts → Ex f us → Ex (e + f) acc → Ex (e + f) (mulT acc ts us)
  | [], _, _, _, _, h => h
  | t :: ts, us, acc, h1, h2, h3 => by
    have ht := h1 t (List.mem_cons_self ..)
    have := Ex.addT h3 (Ex.timesT (z := t.1) ht.1 ht.2 h2)
    rw [Nat.max_self] at this
    simp only [Go.Num.mulT]
    exact Ex.mulT (fun x hx => h1 x (List.mem_cons_of_mem _ hx)) h2 this
theorem Bd.mono {a b : Nat} (h : a ≤ b) {ts : List Tm} (k : Bd a ts) : Bd b ts := fun t ht => Nat.le_trans (k t ht) h
theorem Bd.perm {a : Nat} {ts us : List Tm} (h : us.Perm ts) (k : Bd a ts) : Bd a us := fun t ht => k t (h.mem_iff.1 ht)
theorem mulT_len : ∀ (ts us acc : List Tm), (mulT acc ts us).length ≤ acc.length + ts.length * us.length
  | [], _, _ => by simp [mulT]
  | t :: ts, us, acc => by
    have h1 := mulT_len ts us (addT acc (timesT t.1 t.2 us))
    have h2 := addT_len _ acc (timesT t.1 t.2 us) (Nat.le_refl _)
    have h3 : (timesT t.1 t.2 us).length = us.length := by simp [timesT]
    simp only [mulT, List.length_cons, Nat.add_mul, Nat.one_mul]; omega

end Go.Proofs.YtidginchkjhobaaGreat

namespace Go.Proofs.YtidginchkjhobaaGreat
open Go.Ev Go.Num

/-- A polynomial in order, with bounds for its coefficients, exponents and terms. -/
structure Pq (l : PL) (ts : List Tm) (a e n : Nat) : Prop where
  rep : PolyS l ts
  bd : Bd a ts
  ex : Ex e ts
  dc : Dc ts
  len : ts.length ≤ n
theorem Pq.zero (a e n : Nat) : Pq .nilS [] a e n := ⟨⟨[], .nil, .nil⟩, (fun _ h => by cases h), (fun _ h => by cases h), .nil, Nat.zero_le _⟩
theorem Pq.mono {l : PL} {ts : List Tm} {a e n a' e' n' : Nat} (h : Pq l ts a e n) (h1 : a ≤ a') (h2 : e ≤ e') (h3 : n ≤ n') : Pq l ts a' e' n' := ⟨h.rep, h.bd.mono h1, h.ex.mono h2, h.dc, Nat.le_trans h.len h3⟩

section
variable {B : Base} {l l2 : PL} {ts us : List Tm} {a b e f n m : Nat}
theorem Pq.radd (hB : Std B) (h1 : Pq l ts a e n) (h2 : Pq l2 us b f m) (hab : a + b < 4294967296) (hn : n < 100000) (hm : m < 100000) : ∃ o, Ret B 10 [.one l, .one l2] (.one (.lst o)) ∧ Pq (.lst o) (addT ts us) (a + b) (max e f) (n + m) := by
  have := h1.len; have := h2.len
  obtain ⟨o, g1, g2⟩ := raddP_ret hB h1.rep h2.rep hab h1.bd h2.bd (by omega) (by omega)
  exact ⟨_, g1, ⟨o, .lst, g2⟩, addT_bd _ ts us (Nat.le_refl _) h1.bd h2.bd, h1.ex.addT h2.ex, dc_addT _ (Nat.le_refl _) h1.ex.w8 h2.ex.w8 h1.dc h2.dc, by have := addT_len _ ts us (Nat.le_refl _); omega⟩
theorem negT_ok (h2 : Pq l2 us b f m) : Bd b (negT us) ∧ Ex f (negT us) ∧ Dc (negT us) ∧ (negT us).length ≤ m := by
  refine ⟨fun t ht => ?_, fun t ht => ?_, ⟨fun t ht => ?_, ?_⟩, by simpa [negT] using h2.len⟩
  · simp only [negT, List.mem_map] at ht
    obtain ⟨u, hu, rfl⟩ := ht
    have := h2.bd u hu; simp only []; omega
  · simp only [negT, List.mem_map] at ht
    obtain ⟨u, hu, rfl⟩ := ht
    exact h2.ex u hu
  · simp only [negT, List.mem_map] at ht
    obtain ⟨u, hu, rfl⟩ := ht
    have := h2.dc.nz u hu; simp only []; omega
  · unfold negT; rw [List.pairwise_map]; exact h2.dc.pw
theorem pair_neg (φ : List Nat → Int) : ∀ us, pair (negT us) φ = - pair us φ
  | [] => rfl
  | u :: us => by
    have ih := pair_neg φ us
    unfold negT at ih
    simp only [negT, List.map_cons, pair, ih]
    have : -1 * u.1 * φ u.2 = - (u.1 * φ u.2) := by rw [Int.neg_mul, Int.one_mul, Int.neg_mul]
    omega
theorem Pq.rsub (hB : Std B) (h1 : Pq l ts a e n) (h2 : Pq l2 us b f m) (hab : a + b < 4294967296) (hn : n < 100000) (hm : m < 100000) : ∃ r, Ret B 12 [.one l, .one l2] (.one r) ∧ Pq r (addT ts (negT us)) (a + b) (max e f) (n + m) := by
  have := h1.len; have := h2.len
  obtain ⟨n1, n2, n3, n4⟩ := negT_ok h2
  obtain ⟨o, g1, g2⟩ := rsub_ret hB h1.rep h2.rep hab h1.bd h2.bd (by omega) (by omega)
  exact ⟨_, g1, ⟨o, .lst, g2⟩, addT_bd _ ts _ (Nat.le_refl _) h1.bd n1, h1.ex.addT n2, dc_addT _ (Nat.le_refl _) h1.ex.w8 n2.w8 h1.dc n3, by have := addT_len _ ts (negT us) (Nat.le_refl _); omega⟩
theorem mulT_nice (h1 : Pq l ts a e n) (h2 : Pq l2 us b f m) : Ex (e + f) (mulT [] ts us) ∧ Dc (mulT [] ts us) ∧ (mulT [] ts us).length ≤ n * m := by
  refine ⟨Ex.mulT h1.ex h2.ex (fun _ h => by cases h), dc_mulT h1.ex.w8 h2.ex.w8 (fun _ h => by cases h) h1.dc.nz h2.dc Dc.nil, ?_⟩
  have := mulT_len ts us []
  have := Nat.mul_le_mul h1.len h2.len
  simp at *; omega
theorem Pq.rmul (hB : Std B) (h1 : Pq l ts a e n) (h2 : Pq l2 us b f m) (ha : a < 65536) (hb : b < 65536) (hef : e + f ≤ 65535) (hs : n * (a * b) < 4294967296) (hn : n < 500) (hm : m < 500) : ∃ r, Ret B 38 [.one l, .one l2] (.tup [.one r, .one (.int .i64 (.ofNat 0))]) ∧ Pq r (mulT [] ts us) (n * (a * b)) (e + f) (n * m) := by
  have q1 := h1.len; have := h2.len
  have q2 : ts.length * (a * b) ≤ n * (a * b) := Nat.mul_le_mul_right _ q1
  obtain ⟨x1, x2, x3⟩ := mulT_nice h1 h2
  obtain ⟨r, g1, g2, g3⟩ := rmulP_ret hB h1.rep h2.rep h1.bd h2.bd ha hb (fun t ht => ⟨h1.dc.nz t ht, h1.ex.ok hef h2.ex t ht⟩) (by omega) (by omega) (by omega)
  exact ⟨r, g1, g2, g3.mono q2, x1, x2, x3⟩
theorem Pq.rby (hB : Std B) (h1 : Pq l ts a e n) (h2 : Pq l2 us b f m) (ha : a < 65536) (hb : b < 65536) (hef : e + f ≤ 65535) (hs : n * (a * b) < 4294967296) (hn : n < 500) (hm : m < 500) : ∃ r, Ret B 11 [.one l, .one l2] (.one r) ∧ Pq r (mulT [] ts us) (n * (a * b)) (e + f) (n * m) := by
  have q1 := h1.len; have := h2.len
  have q2 : ts.length * (a * b) ≤ n * (a * b) := Nat.mul_le_mul_right _ q1
  obtain ⟨x1, x2, x3⟩ := mulT_nice h1 h2
  obtain ⟨r, g1, g2, g3⟩ := rby_ret hB h1.rep h2.rep h1.bd h2.bd ha hb (fun t ht => ⟨h1.dc.nz t ht, h1.ex.ok hef h2.ex t ht⟩) (by omega) (by omega) (by omega)
  exact ⟨r, g1, g2, g3.mono q2, x1, x2, x3⟩
theorem Pq.padd (hB : Std B) (h1 : Pq l ts a e n) (h2 : Pq l2 us b f m) (hab : a + b < 4294967296) (hn : n < 100000) (hm : m < 100000) : ∃ r, Ret B 68 [.one l, .one l2] (.one r) ∧ Pq r (addT ts us) (a + b) (max e f) (n + m) := by
  have := h1.len; have := h2.len
  obtain ⟨o, g1, g2⟩ := polyAdd_ret hB h1.rep h2.rep hab h1.bd h2.bd (by omega) (by omega)
  exact ⟨_, g1, ⟨o, .lst, g2⟩, addT_bd _ ts us (Nat.le_refl _) h1.bd h2.bd, h1.ex.addT h2.ex, dc_addT _ (Nat.le_refl _) h1.ex.w8 h2.ex.w8 h1.dc h2.dc, by have := addT_len _ ts us (Nat.le_refl _); omega⟩
theorem addTo_ex {g : Nat} {z : Int} {m : List Nat} (hm : m.length = 8 ∧ ∀ x ∈ m, x ≤ g) : ∀ {ts : List Tm}, Ex g ts → Ex g (addTo z m ts)
  | [], _ => by intro t ht; simp [addTo] at ht; subst ht; exact hm
  | u :: ts, h => by
    have h2 : Ex g ts := fun t ht => h t (List.mem_cons_of_mem _ ht)
    unfold addTo
    split
    · intro t ht
      rcases List.mem_cons.1 ht with rfl | ht
      · exact hm
      · exact h2 t ht
    · intro t ht
      rcases List.mem_cons.1 ht with rfl | ht
      · exact h _ (List.mem_cons_self ..)
      · exact addTo_ex hm h2 t ht
theorem inT_ex {e f : Nat} {z : Int} {m : List Nat} (hm : m.length = 8 ∧ ∀ x ∈ m, x ≤ e) : ∀ {us acc : List Tm}, Ex f us → Ex (e + f) acc → Ex (e + f) (inT z m us acc)
  | [], _, _, h => h
  | u :: us, acc, h1, h2 => by
    have hu := h1 u (List.mem_cons_self ..)
    simp only [inT]
    exact inT_ex hm (fun t ht => h1 t (List.mem_cons_of_mem _ ht)) (addTo_ex ⟨addM_len hm.1 hu.1, addM_le hm.2 hu.2⟩ h2)
theorem outT_ex {e f : Nat} {us : List Tm} (h : Ex f us) : ∀ {ts acc : List Tm}, Ex e ts → Ex (e + f) acc → Ex (e + f) (outT us ts acc)
  | [], _, _, h => h
  | t :: ts, acc, h1, h2 => by
    simp only [outT]
    exact outT_ex h (fun x hx => h1 x (List.mem_cons_of_mem _ hx)) (inT_ex (h1 t (List.mem_cons_self ..)) h h2)
theorem Pq.pmul (hB : StdS B) (h1 : Pq l ts a e n) (h2 : Pq l2 us b f m) (ha : a < 65536) (hb : b < 65536) (hef : e + f ≤ 65535) (hs : n * (m * (a * b)) < 4294967296) (hnm : n * m < 60000) (hn : n < 1000) (hm : m < 1000) :
    ∃ r ws, Ret B 78 [.one l, .one l2] (.tup [.one r, .one (.int .i64 (.ofNat 0))]) ∧ Pq r ws (n * (m * (a * b))) (e + f) (n * m) ∧ ∀ φ, pair ws φ = pair ts fun x => pair us fun y => φ (addM x y) := by
  have q1 := h1.len; have q2 := h2.len
  have q3 : ts.length * (us.length * (a * b)) ≤ n * (m * (a * b)) := Nat.mul_le_mul q1 (Nat.mul_le_mul_right _ q2)
  have q4 : ts.length * us.length ≤ n * m := Nat.mul_le_mul q1 q2
  obtain ⟨os, ws, g1, g2, g3, g4, g5⟩ := polyMul_ret hB h1.rep h2.rep h1.bd h2.bd ha hb (h1.ex.ok hef h2.ex) (by omega) (by omega) (by omega) (by omega)
  have hex : Ex (e + f) ws := fun t ht => outT_ex (us := us) h2.ex h1.ex (acc := []) (fun _ h => by cases h) t (List.mem_filter.1 (g4.mem_iff.1 ht)).1
  refine ⟨_, ws, g1, ⟨⟨os, .lst, g2⟩, g5.mono q3, hex, Dec.dc hex.w8 g3, ?_⟩, fun φ => ?_⟩
  · have h3 := g4.length_eq
    have h4 := outT_len (us := us) ts []
    refine Nat.le_trans (Nat.le_trans (Nat.le_of_eq h3) (List.length_filter_le ..)) ?_
    simp at h4; omega
  · rw [pair_perm g4, pair_filter, outT_pair]
    simp [pair]
end

/-- The sum of the products of two lists. -/
def dot (φ : List Nat → Int) : List (List Tm) → List (List Tm) → Int
  | t :: ts, u :: us => (pair t fun x => pair u fun y => φ (addM x y)) + dot φ ts us
  | _, _ => 0

/-- A list of polynomials. -/
def onesP (ls : List PL) : List (List PL) := ls.map fun p => [p]
theorem onesP_get {ls : List PL} {i : Nat} {p : PL} (h : ls[i]? = some p) : (onesP ls)[i]? = some [p] := by simp [onesP, h]
theorem onesP_len (ls : List PL) : (onesP ls).length = ls.length := by simp [onesP]
abbrev PqL (ls : List PL) (tss : List (List Tm)) (a e n : Nat) : Prop := All2 (fun l ts => Pq l ts a e n) ls tss

/-- What Sum meets. -/
inductive SumR (E : Oracle) : List PL → List PL → PL → PL → Prop
  | nil {r : PL} : SumR E [] [] r r
  | cons {q l p r r2 rf : PL} {qs ls : List PL} (h1 : E.pure 78 [.one q, .one l] = some (.tup [.one p, .one (.int .i64 (.ofNat 0))])) (h2 : E.pure 68 [.one r, .one p] = some (.one r2)) (h : SumR E qs ls r2 rf) : SumR E (q :: qs) (l :: ls) r rf
inductive RSumR (E : Oracle) : List PL → List PL → PL → PL → Prop
  | nil {r : PL} : RSumR E [] [] r r
  | cons {q l p r r2 rf : PL} {qs ls : List PL} (h1 : E.pure 38 [.one q, .one l] = some (.tup [.one p, .one (.int .i64 (.ofNat 0))])) (h2 : E.pure 10 [.one r, .one p] = some (.one r2)) (h : RSumR E qs ls r2 rf) : RSumR E (q :: qs) (l :: ls) r rf

set_option maxRecDepth 100000 in
set_option maxHeartbeats 4000000 in
theorem sum_go {E : Oracle} {K : Nat} {Q L : PL} (hmd : E.mode = md) {allq alll : List PL} (sq : Sl Q (onesP allq)) (sl : Sl L (onesP alll)) (hl : alll.length < 1000000) : ∀ (qs ls : List PL) (r rf : PL), SumR E qs ls r rf →
    ∀ (i k : Nat) (H : List Blk), allq.drop i = qs → alll.drop i = ls → i + ls.length = alll.length → ls.length < k →
    ∃ T', loopK E K 0 [0, 1, 6, 16, 17] x39_1 k ⟨[(0, .one (.p Q)), (1, .one (.p L)), (6, .one (.p r)), (16, .one (.p (.int .i64 (.ofNat alll.length)))), (17, .one (.p (.int .i64 (.ofNat i))))], H⟩ = some (.exit 0, ⟨T', H⟩) ∧ getT T' 6 = some (.one (.p rf)) := by
  intro qs ls r rf h
  induction h with
  | nil =>
    intro i k H _ hd hi hk
    obtain ⟨k, rfl⟩ : ∃ k', k = k' + 1 := ⟨k - 1, by omega⟩
    have hlt : ¬ i < alll.length := by simp at hi; omega
    apply ex1
    · rw [loopK]
      simp only [EVS, EVN, reduceIte, Nat.reduceEqDiff, x39_1, hlt]
      rfl
    · simp only [EVS, reduceIte, Nat.reduceEqDiff]
  | @cons q l p r r2 rf qs ls h1 h2 h ih =>
    intro i k H hdq hdl hi hk
    obtain ⟨k, rfl⟩ : ∃ k', k = k' + 1 := ⟨k - 1, by omega⟩
    simp only [List.length_cons] at hi hk
    have hlt : i < alll.length := by omega
    obtain ⟨gq, dq⟩ := drop_cons_get hdq
    obtain ⟨gl, dl⟩ := drop_cons_get hdl
    have iq := fun (hh : HF) (kd : IntKind) => sq.idx (h := hh) (k := kd) (sz := 1) (onesP_get gq) rfl
    have il := fun (hh : HF) (kd : IntKind) => sl.idx (h := hh) (k := kd) (sz := 1) (onesP_get gl) rfl
    have f1 : wrapF .i64 (.ofNat (i + 1)) = .ofNat (i + 1) := wrap_i64 (by omega)
    obtain ⟨T', g1, g2⟩ := ih (i + 1) k H dq dl (by omega) (by omega)
    refine ⟨T', ?_, g2⟩
    rw [loopK]
    simp only [EVS, EVN, EVF, reduceIte, Nat.reduceEqDiff, Nat.reduceAdd, x39_1, hlt, iq, il, hmd, MDS, h1, h2, f1]
    exact g1
set_option maxRecDepth 100000 in
set_option maxHeartbeats 4000000 in
theorem rsum_go {E : Oracle} {K : Nat} {Q L : PL} (hmd : E.mode = md) {allq alll : List PL} (sq : Sl Q (onesP allq)) (sl : Sl L (onesP alll)) (hl : alll.length < 1000000) : ∀ (qs ls : List PL) (r rf : PL), RSumR E qs ls r rf →
    ∀ (i k : Nat) (H : List Blk), allq.drop i = qs → alll.drop i = ls → i + ls.length = alll.length → ls.length < k →
    ∃ T', loopK E K 0 [0, 1, 6, 7] x79_1 k ⟨[(0, .one (.p Q)), (1, .one (.p L)), (6, .one (.p r)), (7, .one (.p (.int .i64 (.ofNat i))))], H⟩ = some (.exit 0, ⟨T', H⟩) ∧ getT T' 6 = some (.one (.p rf)) := by
  intro qs ls r rf h
  induction h with
  | nil =>
    intro i k H _ hd hi hk
    obtain ⟨k, rfl⟩ : ∃ k', k = k' + 1 := ⟨k - 1, by omega⟩
    have hlt : ¬ i < alll.length := by simp at hi; omega
    apply ex1
    · rw [loopK]
      simp only [EVS, EVN, reduceIte, Nat.reduceEqDiff, x79_1, sl.len, onesP_len, hlt]
      rfl
    · simp only [EVS, reduceIte, Nat.reduceEqDiff]
  | @cons q l p r r2 rf qs ls h1 h2 h ih =>
    intro i k H hdq hdl hi hk
    obtain ⟨k, rfl⟩ : ∃ k', k = k' + 1 := ⟨k - 1, by omega⟩
    simp only [List.length_cons] at hi hk
    have hlt : i < alll.length := by omega
    obtain ⟨gq, dq⟩ := drop_cons_get hdq
    obtain ⟨gl, dl⟩ := drop_cons_get hdl
    have iq := fun (hh : HF) (kd : IntKind) => sq.idx (h := hh) (k := kd) (sz := 1) (onesP_get gq) rfl
    have il := fun (hh : HF) (kd : IntKind) => sl.idx (h := hh) (k := kd) (sz := 1) (onesP_get gl) rfl
    have f1 : wrapF .i64 (.ofNat (i + 1)) = .ofNat (i + 1) := wrap_i64 (by omega)
    obtain ⟨T', g1, g2⟩ := ih (i + 1) k H dq dl (by omega) (by omega)
    refine ⟨T', ?_, g2⟩
    rw [loopK]
    simp only [EVS, EVN, EVF, reduceIte, Nat.reduceEqDiff, Nat.reduceAdd, x79_1, sl.len, onesP_len, hlt, iq, il, hmd, MDS, h1, h2, f1]
    exact g1

end Go.Proofs.YtidginchkjhobaaGreat

namespace Go.Proofs.YtidginchkjhobaaGreat
open Go.Ev Go.Num

theorem sumR_evt {B : Base} (hB : StdS B) {a b e f n m : Nat} (ha : a < 65536) (hb : b < 65536) (hef : e + f ≤ 65535) (hs : n * (m * (a * b)) < 4294967296) (hnm : n * m < 60000) (hn : n < 1000) (hm : m < 1000) : ∀ {qs : List PL} {qts : List (List Tm)}, PqL qs qts a e n → ∀ {ls : List PL} {lts : List (List Tm)}, PqL ls lts b f m → qs.length = ls.length →
    ∀ {r : PL} {acc : List Tm} {c k : Nat}, Pq r acc c (e + f) k → c + qs.length * (n * (m * (a * b))) < 4294967296 → k + qs.length * (n * m) < 100000 →
    ∃ rf fs, (Evt B fun E _ => SumR E qs ls r rf) ∧ Pq rf fs (c + qs.length * (n * (m * (a * b)))) (e + f) (k + qs.length * (n * m)) ∧ ∀ φ, pair fs φ = pair acc φ + dot φ qts lts := by
  intro qs qts hq
  induction hq with
  | nil =>
    intro ls lts hl hlen r acc c k hr _ _
    cases hl with
    | cons _ _ => simp at hlen
    | nil => exact ⟨r, acc, Evt.of fun _ _ => .nil, by simpa using hr, fun φ => by simp [dot]⟩
  | @cons q t qs qts h1 h ih =>
    intro ls lts hl hlen r acc c k hr hc hk
    cases hl with
    | nil => simp at hlen
    | @cons l u ls lts h2 hl =>
      simp only [List.length_cons, Nat.add_mul, Nat.one_mul] at hc hk hlen ⊢
      obtain ⟨p, ws, g1, g2, g3⟩ := h1.pmul hB h2 ha hb hef hs hnm hn hm
      obtain ⟨r2, g4, g5⟩ := hr.padd hB.toStd g2 (by omega) (by omega) (by omega)
      rw [Nat.max_self] at g5
      obtain ⟨rf, fs, k1, k2, k3⟩ := ih hl (by omega) g5 (by omega) (by omega)
      refine ⟨rf, fs, (k1.and (g1.evt.and g4.evt)).mono fun E K ⟨e1, e2, e3⟩ => .cons e2 e3 e1, k2.mono (by omega) (Nat.le_refl _) (by omega), fun φ => ?_⟩
      rw [k3 φ, pair_add φ _ _ _ (Nat.le_refl _) hr.ex.w8 g2.ex.w8, g3 φ]
      simp only [dot]; omega

theorem rsumR_evt {B : Base} (hB : Std B) {a b e f n m : Nat} (ha : a < 65536) (hb : b < 65536) (hef : e + f ≤ 65535) (hs : n * (a * b) < 4294967296) (hn : n < 500) (hm : m < 500) : ∀ {qs : List PL} {qts : List (List Tm)}, PqL qs qts a e n → ∀ {ls : List PL} {lts : List (List Tm)}, PqL ls lts b f m → qs.length = ls.length →
    ∀ {r : PL} {acc : List Tm} {c k : Nat}, Pq r acc c (e + f) k → c + qs.length * (n * (a * b)) < 4294967296 → k + qs.length * (n * m) < 100000 →
    ∃ rf fs, (Evt B fun E _ => RSumR E qs ls r rf) ∧ Pq rf fs (c + qs.length * (n * (a * b))) (e + f) (k + qs.length * (n * m)) ∧ ∀ φ, pair fs φ = pair acc φ + dot φ qts lts := by
  intro qs qts hq
  induction hq with
  | nil =>
    intro ls lts hl hlen r acc c k hr _ _
    cases hl with
    | cons _ _ => simp at hlen
    | nil => exact ⟨r, acc, Evt.of fun _ _ => .nil, by simpa using hr, fun φ => by simp [dot]⟩
  | @cons q t qs qts h1 h ih =>
    intro ls lts hl hlen r acc c k hr hc hk
    cases hl with
    | nil => simp at hlen
    | @cons l u ls lts h2 hl =>
      simp only [List.length_cons, Nat.add_mul, Nat.one_mul] at hc hk hlen ⊢
      obtain ⟨p, g1, g2⟩ := h1.rmul hB h2 ha hb hef hs hn hm
      obtain ⟨r2, g4, g5⟩ := hr.radd hB g2 (by omega) (by omega) (by omega)
      rw [Nat.max_self] at g5
      obtain ⟨rf, fs, k1, k2, k3⟩ := ih hl (by omega) g5 (by omega) (by omega)
      refine ⟨rf, fs, (k1.and (g1.evt.and g4.evt)).mono fun E K ⟨e1, e2, e3⟩ => .cons e2 e3 e1, k2.mono (by omega) (Nat.le_refl _) (by omega), fun φ => ?_⟩
      rw [k3 φ, pair_add φ _ _ _ (Nat.le_refl _) hr.ex.w8 g2.ex.w8, pair_mulT φ h1.ex.w8 h2.ex.w8 (fun _ h => by cases h)]
      simp only [dot, pair]; omega

/-- The sum of the products is 0. -/
def Zero (qts lts : List (List Tm)) : Prop := ∀ φ, dot φ qts lts = 0
theorem zero_iff {fs : List Tm} (h : Dc fs) {qts lts : List (List Tm)} (hp : ∀ φ, pair fs φ = dot φ qts lts) : fs = [] ↔ Zero qts lts := by
  constructor
  · intro e φ; rw [← hp φ, e]; rfl
  · intro hz; exact h.zero fun φ => by rw [hp φ, hz φ]

section
variable {B : Base} {Q L : PL} {qs ls : List PL} {qts lts : List (List Tm)} {a b e f n m : Nat}
set_option maxRecDepth 100000 in
set_option maxHeartbeats 4000000 in
theorem dsum_ret (hB : StdS B) (sq : Sl Q (onesP qs)) (sl : Sl L (onesP ls)) (hq : PqL qs qts a e n) (hl : PqL ls lts b f m) (hlen : qs.length = ls.length) (ha : a < 65536) (hb : b < 65536) (hef : e + f ≤ 65535) (hs : n * (m * (a * b)) < 65536 * 65536) (hnm : n * m < 20000) (hn : n < 1000) (hm : m < 1000)
    (h1 : qs.length * (n * (m * (a * b))) < 4294967296) (h2 : qs.length * (n * m) < 100000) (h3 : ls.length < 1000000) :
    ∃ rf fs, Ret B 39 [.one Q, .one L] (.tup [.one rf, .one (.int .i64 (.ofNat 0))]) ∧ PolyS rf fs ∧ Dc fs ∧ ∀ φ, pair fs φ = dot φ qts lts := by
  obtain ⟨rf, fs, g1, g2, g3⟩ := sumR_evt hB ha hb hef (by omega) (by omega) hn hm hq hl hlen (Pq.zero 0 (e + f) 0) (by omega) (by omega)
  refine ⟨rf, fs, Ret.of (hB.toStd.tab _ _ rfl) ((g1.and (hB.toStd.evt.and (Evt.ge (ls.length + 1)))).mono fun E K ⟨e1, hmd, hK⟩ => ?_), g2.rep, g2.dc, fun φ => by rw [g3 φ]; simp [pair]⟩
  obtain ⟨T', k1, k2⟩ := sum_go (K := K) hmd sq sl h3 qs ls .nilS rf e1 0 K [] (by simp) (by simp) (by simp) (by omega)
  simp only [EVS, EVN, reduceIte, Nat.reduceEqDiff, Nat.reduceLeDiff, Nat.reduceAdd, x39, sq.len, sl.len, onesP_len, hlen, k1, k2]

set_option maxRecDepth 100000 in
set_option maxHeartbeats 4000000 in
theorem rdsum_ret (hB : Std B) (sq : Sl Q (onesP qs)) (sl : Sl L (onesP ls)) (hq : PqL qs qts a e n) (hl : PqL ls lts b f m) (hlen : qs.length = ls.length) (ha : a < 65536) (hb : b < 65536) (hef : e + f ≤ 65535) (hs : n * (a * b) < 4294967296) (hn : n < 500) (hm : m < 500)
    (h1 : qs.length * (n * (a * b)) < 4294967296) (h2 : qs.length * (n * m) < 100000) (h3 : ls.length < 1000000) :
    ∃ rf fs, Ret B 79 [.one Q, .one L] (.tup [.one rf, .one (.int .i64 (.ofNat 0))]) ∧ PolyS rf fs ∧ Dc fs ∧ ∀ φ, pair fs φ = dot φ qts lts := by
  have h0 : Pq (.lst []) [] 0 (e + f) 0 := ⟨⟨[], .lst, .nil⟩, (fun _ h => by cases h), (fun _ h => by cases h), .nil, Nat.zero_le _⟩
  cases hq with
  | nil =>
    cases hl with
    | cons _ _ => simp at hlen
    | nil =>
      refine ⟨.lst [], [], Ret.of (hB.tab _ _ rfl) ((hB.evt.and (Evt.ge 1)).mono fun E K ⟨hmd, hK⟩ => ?_), h0.rep, .nil, fun φ => rfl⟩
      obtain ⟨K', rfl⟩ : ∃ K', K = K' + 1 := ⟨K - 1, by omega⟩
      simp only [EVS, EVN, reduceIte, Nat.reduceEqDiff, Nat.reduceLeDiff, Nat.reduceAdd, x79, x79_1, loopK, sq.len, sl.len, onesP_len, Nat.lt_irrefl]
  | @cons q t qs qts hq1 hq =>
    cases hl with
    | nil => simp at hlen
    | @cons l u ls lts hl1 hl =>
      simp only [List.length_cons, Nat.add_mul, Nat.one_mul] at hlen h1 h2 h3
      obtain ⟨p, g1, g2⟩ := hq1.rmul hB hl1 ha hb hef hs hn hm
      obtain ⟨r2, g4, g5⟩ := h0.radd hB g2 (by omega) (by omega) (by omega)
      rw [Nat.max_self] at g5
      obtain ⟨rf, fs, k1, k2, k3⟩ := rsumR_evt hB ha hb hef hs hn hm hq hl (by omega) g5 (by omega) (by omega)
      refine ⟨rf, fs, Ret.of (hB.tab _ _ rfl) ((k1.and (g1.evt.and (g4.evt.and (hB.evt.and (Evt.ge (ls.length + 3)))))).mono fun E K ⟨e0, e1, e2, hmd, hK⟩ => ?_), k2.rep, k2.dc, fun φ => ?_⟩
      · obtain ⟨K', rfl⟩ : ∃ K', K = K' + 1 := ⟨K - 1, by omega⟩
        obtain ⟨T', q1, q2⟩ := rsum_go (K := K' + 1) hmd sq sl (by simp; omega) qs ls (.lst r2) rf e0 1 K' [⟨true, 0, 12, [], false, 75⟩] (by simp) (by simp) (by simp; omega) (by omega)
        have iq := fun (hh : HF) (kd : IntKind) => sq.idx (h := hh) (k := kd) (i := 0) (sz := 1) (onesP_get rfl) rfl
        have il := fun (hh : HF) (kd : IntKind) => sl.idx (h := hh) (k := kd) (i := 0) (sz := 1) (onesP_get rfl) rfl
        have l0 : 0 < ls.length + 1 := by omega
        have hl3 : qs.length + 1 = ls.length + 1 := hlen
        have first : loopK E (K' + 1) 0 [0, 1, 6, 7] x79_1 (K' + 1) ⟨[(0, .one (.p Q)), (1, .one (.p L)), (6, .one (.own 0 0 0 0)), (7, .one (.p (.int .i64 (.ofNat 0))))], [⟨false, 0, 12, [], false, 75⟩]⟩ = some (.exit 0, ⟨T', [⟨true, 0, 12, [], false, 75⟩]⟩) := by
          rw [loopK]
          simp only [EVS, EVN, EVF, reduceIte, Nat.reduceEqDiff, Nat.reduceAdd, x79_1, sl.len, onesP_len, l0, iq, il, hmd, MDS, e1, e2, w1]
          exact q1
        simp only [EVS, EVN, EVF, reduceIte, Nat.reduceEqDiff, Nat.reduceLeDiff, Nat.reduceAdd, x79, sq.len, sl.len, onesP_len, hl3, first, q2]
      · rw [k3 φ, addT_nil_left, pair_mulT φ hq1.ex.w8 hl1.ex.w8 (fun _ h => by cases h)]
        simp [dot, pair]
end

end Go.Proofs.YtidginchkjhobaaGreat

namespace Go.Proofs.YtidginchkjhobaaGreat
open Go.Ev Go.Num

section
variable {B : Base} {Q L : PL} {qs ls : List PL} {qts lts : List (List Tm)} {a b e f n m : Nat}
set_option maxRecDepth 100000 in
set_option maxHeartbeats 4000000 in
/-- Package syzygy: Is. -/
theorem is_ret (hB : StdS B) (sq : Sl Q (onesP qs)) (sl : Sl L (onesP ls)) (hq : PqL qs qts a e n) (hl : PqL ls lts b f m) (hlen : qs.length = ls.length) (ha : a < 65536) (hb : b < 65536) (hef : e + f ≤ 65535) (hs : n * (m * (a * b)) < 65536 * 65536) (hnm : n * m < 20000) (hn : n < 1000) (hm : m < 1000)
    (h1 : qs.length * (n * (m * (a * b))) < 4294967296) (h2 : qs.length * (n * m) < 100000) (h3 : ls.length < 1000000) :
    ∃ v, Ret B 13 [.one Q, .one L] (.one (.bool v)) ∧ (v = true ↔ Zero qts lts) := by
  obtain ⟨rf, fs, g1, ⟨es, se, g2⟩, g3, g4⟩ := dsum_ret hB sq sl hq hl hlen ha hb hef hs hnm hn hm h1 h2 h3
  have hz := zero_iff g3 g4
  have hl2 : es.length = fs.length := g2.length
  refine ⟨decide (es.length = 0), Ret.of (hB.toStd.tab _ _ rfl) ((g1.evt.and hB.toStd.evt).mono fun E K ⟨e1, hmd⟩ => ?_), ?_⟩
  · simp only [EVS, EVN, reduceIte, Nat.reduceEqDiff, Nat.reduceLeDiff, Nat.reduceAdd, x13, sq.len, sl.len, onesP_len, hlen, hmd, MDS, e1, se.len]
  · rw [decide_eq_true_iff, hl2, List.length_eq_zero_iff]; exact hz
set_option maxRecDepth 100000 in
set_option maxHeartbeats 4000000 in
theorem is_len (hB : Std B) (sq : Sl Q (onesP qs)) (sl : Sl L (onesP ls)) (hlen : qs.length ≠ ls.length) : Ret B 13 [.one Q, .one L] (.one (.bool false)) := by
  refine Ret.of (hB.tab _ _ rfl) (hB.evt.mono fun E K hmd => ?_)
  simp only [EVS, EVN, reduceIte, Nat.reduceEqDiff, Nat.reduceLeDiff, Nat.reduceAdd, x13, sq.len, sl.len, onesP_len, hlen]

set_option maxRecDepth 100000 in
set_option maxHeartbeats 4000000 in
theorem same_nil (hB : Std B) {l : PL} {es : List (List PL)} (sl : Sl l es) : Ret B 57 [.one l, .one .nilS] (.one (.bool (decide (es.length = 0)))) := by
  have h0 : opLen [.one (.p .nilS)] = some ⟨.one (.p (.int .i64 (.ofNat 0))), [], [], []⟩ := rfl
  by_cases h : es.length = 0
  · rw [decide_eq_true h]
    refine Ret.of (hB.tab _ _ rfl) ((hB.evt.and (Evt.ge 1)).mono fun E K ⟨hmd, hK⟩ => ?_)
    obtain ⟨K', rfl⟩ : ∃ K', K = K' + 1 := ⟨K - 1, by omega⟩
    have hsl := sl.len
    rw [h] at hsl
    simp only [EVS, EVN, reduceIte, Nat.reduceEqDiff, Nat.reduceLeDiff, Nat.reduceAdd, x57, x57_1, loopK, hsl, Nat.lt_irrefl]
  · rw [decide_eq_false h]
    refine Ret.of (hB.tab _ _ rfl) (hB.evt.mono fun E K hmd => ?_)
    simp only [EVS, EVN, reduceIte, Nat.reduceEqDiff, Nat.reduceLeDiff, Nat.reduceAdd, x57, sl.len, h]

set_option maxRecDepth 100000 in
set_option maxHeartbeats 4000000 in
/-- The reference: Is. -/
theorem ris_ret (hB : Std B) (sq : Sl Q (onesP qs)) (sl : Sl L (onesP ls)) (hq : PqL qs qts a e n) (hl : PqL ls lts b f m) (hlen : qs.length = ls.length) (ha : a < 65536) (hb : b < 65536) (hef : e + f ≤ 65535) (hs : n * (a * b) < 4294967296) (hn : n < 500) (hm : m < 500)
    (h1 : qs.length * (n * (a * b)) < 4294967296) (h2 : qs.length * (n * m) < 100000) (h3 : ls.length < 1000000) :
    ∃ v, Ret B 14 [.one Q, .one L] (.one (.bool v)) ∧ (v = true ↔ Zero qts lts) := by
  obtain ⟨rf, fs, g1, ⟨es, se, g2⟩, g3, g4⟩ := rdsum_ret hB sq sl hq hl hlen ha hb hef hs hn hm h1 h2 h3
  have hz := zero_iff g3 g4
  have hl2 : es.length = fs.length := g2.length
  have k1 := same_nil hB se
  have k2 : Ret B 40 [.one .nilS, .one Q, .one L] (.one (.bool (decide (es.length = 0)))) := by
    refine Ret.of (hB.tab _ _ rfl) ((g1.evt.and (k1.evt.and hB.evt)).mono fun E K ⟨e1, e2, hmd⟩ => ?_)
    simp only [EVS, EVN, reduceIte, Nat.reduceEqDiff, Nat.reduceLeDiff, Nat.reduceAdd, x40, hmd, MDS, e1, e2]
  refine ⟨decide (es.length = 0), Ret.of (hB.tab _ _ rfl) ((k2.evt.and hB.evt).mono fun E K ⟨e1, hmd⟩ => ?_), ?_⟩
  · simp only [EVS, EVN, reduceIte, Nat.reduceEqDiff, Nat.reduceLeDiff, Nat.reduceAdd, x14, sq.len, sl.len, onesP_len, hlen, hmd, MDS, e1]
  · rw [decide_eq_true_iff, hl2, List.length_eq_zero_iff]; exact hz
end

end Go.Proofs.YtidginchkjhobaaGreat
