/- Numbers as lists of words: plain facts, no program in sight. -/

namespace Go.Num

def B : Nat := 4294967296

/-- The value of words, the lowest first. -/
def val : List Nat → Nat
  | [] => 0
  | w :: ws => w + 4294967296 * val ws

/-- Words. -/
def Dig (ws : List Nat) : Prop := ∀ w ∈ ws, w < 4294967296

theorem Dig.cons {w : Nat} {ws : List Nat} (h : Dig (w :: ws)) : w < 4294967296 ∧ Dig ws := ⟨h w (by simp), fun x hx => h x (by simp [hx])⟩
theorem Dig.mk {w : Nat} {ws : List Nat} (h : w < 4294967296) (k : Dig ws) : Dig (w :: ws) := by
  intro x hx
  rcases List.mem_cons.1 hx with rfl | hx
  · exact h
  · exact k x hx
theorem Dig.nil : Dig [] := fun _ h => by cases h

/-- Words without zeros at the end. -/
def trimW : List Nat → List Nat
  | [] => []
  | w :: ws => match trimW ws with
    | [] => if w = 0 then [] else [w]
    | t => w :: t

theorem val_trim : ∀ ws, val (trimW ws) = val ws
  | [] => rfl
  | w :: ws => by
    have ih := val_trim ws
    unfold trimW
    split
    · rename_i h
      rw [h] at ih
      simp only [val] at ih
      split
      · simp only [val]; omega
      · simp only [val]; omega
    · simp only [val, ih]

/-- Words whose last one is not 0. -/
def Canon : List Nat → Prop
  | [] => True
  | [w] => w ≠ 0
  | _ :: v :: ws => Canon (v :: ws)

theorem trim_canon : ∀ ws, Canon (trimW ws)
  | [] => trivial
  | w :: ws => by
    have ih := trim_canon ws
    unfold trimW
    split
    · split
      · trivial
      · assumption
    · rename_i t h
      cases ht : trimW ws with
      | nil => exact absurd ht h
      | cons a l => rw [ht] at ih; exact ih

theorem trim_dig : ∀ {ws}, Dig ws → Dig (trimW ws)
  | [], _ => Dig.nil
  | w :: ws, h => by
    have ih := trim_dig h.cons.2
    unfold trimW
    split
    · split
      · exact Dig.nil
      · exact Dig.mk h.cons.1 Dig.nil
    · exact Dig.mk h.cons.1 ih

theorem canon_pos : ∀ {w ws}, Canon (w :: ws) → 0 < val (w :: ws)
  | w, [], h => by simp only [Canon] at h; simp only [val]; omega
  | w, v :: ws, h => by
    have := canon_pos (w := v) (ws := ws) h
    simp only [val] at this ⊢; omega

theorem canon_tail {w : Nat} {ws : List Nat} (h : Canon (w :: ws)) : Canon ws := by
  cases ws with
  | nil => trivial
  | cons v ws => exact h

theorem canon_inj : ∀ {a b : List Nat}, Dig a → Dig b → Canon a → Canon b → val a = val b → a = b
  | [], [], _, _, _, _, _ => rfl
  | [], w :: ws, _, _, _, hb, h => by have := canon_pos hb; simp only [val] at h this; omega
  | w :: ws, [], _, _, ha, _, h => by have := canon_pos ha; simp only [val] at h this; omega
  | x :: xs, y :: ys, da, db, ha, hb, h => by
    simp only [val] at h
    have h1 := da.cons.1
    have h2 := db.cons.1
    have e1 : x = y := by omega
    have e2 : val xs = val ys := by omega
    rw [e1, canon_inj da.cons.2 db.cons.2 (canon_tail ha) (canon_tail hb) e2]

/-- The words of a number. -/
def wordsOf (n : Nat) : List Nat := if h : n = 0 then [] else n % 4294967296 :: wordsOf (n / 4294967296)
termination_by n
decreasing_by omega

theorem words_zero : wordsOf 0 = [] := by unfold wordsOf; simp
theorem words_pos {n : Nat} (h : n ≠ 0) : wordsOf n = n % 4294967296 :: wordsOf (n / 4294967296) := by
  rw [wordsOf]; simp [h]
theorem val_words (n : Nat) : val (wordsOf n) = n := by
  induction n using Nat.strongRecOn with
  | ind n ih =>
    by_cases h : n = 0
    · subst h; rw [words_zero]; rfl
    · rw [words_pos h]; simp only [val]; rw [ih _ (by omega)]; omega
theorem words_dig (n : Nat) : Dig (wordsOf n) := by
  induction n using Nat.strongRecOn with
  | ind n ih =>
    by_cases h : n = 0
    · subst h; rw [words_zero]; exact Dig.nil
    · rw [words_pos h]; exact Dig.mk (by omega) (ih _ (by omega))
theorem words_canon (n : Nat) : Canon (wordsOf n) := by
  induction n using Nat.strongRecOn with
  | ind n ih =>
    by_cases h : n = 0
    · subst h; rw [words_zero]; trivial
    · rw [words_pos h]
      have := ih (n / 4294967296) (by omega)
      by_cases h2 : n / 4294967296 = 0
      · rw [h2, words_zero]; simp only [Canon]; omega
      · rw [words_pos h2] at this ⊢; exact this
/-- What is canonical is the words of its value. -/
theorem eq_words {ws : List Nat} (hd : Dig ws) (hc : Canon ws) {n : Nat} (hv : val ws = n) : ws = wordsOf n :=
  canon_inj hd (words_dig n) hc (words_canon n) (by rw [hv, val_words])
theorem trim_words {ws : List Nat} (hd : Dig ws) {n : Nat} (hv : val ws = n) : trimW ws = wordsOf n :=
  eq_words (trim_dig hd) (trim_canon ws) (by rw [val_trim, hv])

theorem val_append : ∀ (a b : List Nat), val (a ++ b) = val a + 4294967296 ^ a.length * val b
  | [], b => by simp [val]
  | w :: a, b => by
    simp only [List.cons_append, val, val_append a b, List.length_cons, Nat.pow_succ]
    grind
theorem val_lt : ∀ {ws : List Nat}, Dig ws → val ws < 4294967296 ^ ws.length
  | [], _ => by simp [val]
  | w :: ws, h => by
    have := val_lt h.cons.2
    have := h.cons.1
    simp only [val, List.length_cons, Nat.pow_succ]
    omega
theorem val_replicate (n : Nat) : val (List.replicate n 0) = 0 := by
  induction n with
  | zero => rfl
  | succ n ih => simp only [List.replicate_succ, val, ih]
theorem val_set : ∀ {ws : List Nat} {p w x : Nat}, ws[p]? = some x → val (ws.set p w) + x * 4294967296 ^ p = val ws + w * 4294967296 ^ p
  | [], _, _, _, h => by simp at h
  | v :: ws, 0, w, x, h => by simp at h; subst h; simp only [List.set_cons_zero, val]; omega
  | v :: ws, p + 1, w, x, h => by
    have := val_set (ws := ws) (p := p) (w := w) (x := x) (by simpa using h)
    simp only [List.set_cons_succ, val, Nat.pow_succ]
    grind
theorem Dig.set {ws : List Nat} (h : Dig ws) (p : Nat) {w : Nat} (hw : w < 4294967296) : Dig (ws.set p w) := by
  intro x hx
  rcases List.mem_or_eq_of_mem_set hx with h1 | h1
  · exact h x h1
  · subst h1; exact hw
theorem Dig.get {ws : List Nat} (h : Dig ws) {p w : Nat} (hp : ws[p]? = some w) : w < 4294967296 := h w (List.mem_of_getElem? hp)
theorem Dig.replicate (n : Nat) : Dig (List.replicate n 0) := by
  intro x hx; rw [List.eq_of_mem_replicate hx]; decide
theorem val_drop {ws : List Nat} {p w : Nat} (h : ws[p]? = some w) : val (ws.drop p) = w + 4294967296 * val (ws.drop (p + 1)) := by
  obtain ⟨h1, rfl⟩ := List.getElem?_eq_some_iff.1 h
  rw [List.drop_eq_getElem_cons h1]; rfl
theorem val_take {ws : List Nat} {p w : Nat} (h : ws[p]? = some w) : val (ws.take (p + 1)) = val (ws.take p) + w * 4294967296 ^ p := by
  obtain ⟨h1, rfl⟩ := List.getElem?_eq_some_iff.1 h
  rw [List.take_add_one, val_append, List.getElem?_eq_getElem h1]
  simp only [Option.toList_some, val, List.length_take, Nat.mul_zero, Nat.add_zero]
  rw [Nat.min_eq_left (by omega), Nat.mul_comm]

theorem trim_snoc : ∀ (a : List Nat) (w : Nat), trimW (a ++ [w]) = if w = 0 then trimW a else a ++ [w]
  | [], w => by simp [trimW]
  | x :: a, w => by
    have ih := trim_snoc a w
    by_cases h : w = 0
    · rw [if_pos h] at ih ⊢
      simp only [List.cons_append, trimW, ih]
    · rw [if_neg h] at ih ⊢
      simp only [List.cons_append, trimW, ih]
      cases hh : a ++ [w] with
      | nil => simp at hh
      | cons b l => rfl
theorem take_snoc {ws : List Nat} {n w : Nat} (h : ws[n]? = some w) : ws.take (n + 1) = ws.take n ++ [w] := by
  rw [List.take_add_one, h]; rfl
theorem trim_prefix : ∀ (ws : List Nat), ∃ m, m ≤ ws.length ∧ trimW ws = ws.take m
  | [] => ⟨0, by simp, rfl⟩
  | w :: ws => by
    obtain ⟨m, h1, h2⟩ := trim_prefix ws
    unfold trimW
    split
    · split
      · exact ⟨0, by simp, by simp⟩
      · exact ⟨1, by simp, by simp⟩
    · rw [h2]; exact ⟨m + 1, by simp; omega, by simp⟩
theorem trim_len (ws : List Nat) : (trimW ws).length ≤ ws.length := by
  obtain ⟨m, h1, h2⟩ := trim_prefix ws
  rw [h2, List.length_take]; omega
theorem trim_eq (ws : List Nat) : trimW ws = ws.take (trimW ws).length := by
  obtain ⟨m, h1, h2⟩ := trim_prefix ws
  rw [h2, List.length_take, Nat.min_eq_left h1]

/-- So many words of a number. -/
def dg : Nat → Nat → List Nat
  | 0, _ => []
  | n + 1, v => v % 4294967296 :: dg n (v / 4294967296)
theorem dg_len : ∀ (n v : Nat), (dg n v).length = n
  | 0, _ => rfl
  | n + 1, v => by simp [dg, dg_len n]
theorem dg_dig : ∀ (n v : Nat), Dig (dg n v)
  | 0, _ => Dig.nil
  | n + 1, v => Dig.mk (by omega) (dg_dig n _)
theorem val_dg : ∀ {n v : Nat}, v < 4294967296 ^ n → val (dg n v) = v
  | 0, v, h => by simp only [Nat.pow_zero] at h; simp only [dg, val]; omega
  | n + 1, v, h => by
    simp only [dg, val]
    rw [Nat.pow_succ] at h
    rw [val_dg (Nat.div_lt_of_lt_mul (by rw [Nat.mul_comm]; exact h))]
    omega
theorem eq_dg : ∀ {r : List Nat}, Dig r → r = dg r.length (val r)
  | [], _ => rfl
  | w :: r, h => by
    have := h.cons.1
    simp only [List.length_cons, dg, val]
    rw [show (w + 4294967296 * val r) % 4294967296 = w by omega, show (w + 4294967296 * val r) / 4294967296 = val r by omega, ← eq_dg h.cons.2]
theorem trim_dg {n v : Nat} (h : v < 4294967296 ^ n) : trimW (dg n v) = wordsOf v := trim_words (dg_dig n v) (val_dg h)
theorem eq_dg' {r : List Nat} {n v : Nat} (hd : Dig r) (hn : r.length = n) (hv : val r = v) : r = dg n v := by
  subst hn; subst hv; exact eq_dg hd
theorem pow_le_pow {m n : Nat} (h : m ≤ n) : 4294967296 ^ m ≤ 4294967296 ^ n := Nat.pow_le_pow_right (by decide) h

theorem canon_ge : ∀ {ws : List Nat}, Canon ws → 0 < ws.length → 4294967296 ^ (ws.length - 1) ≤ val ws
  | [], _, h => by simp at h
  | [w], h, _ => by simp only [Canon] at h; simp only [val, List.length_cons, List.length_nil, Nat.zero_add, Nat.sub_self, Nat.pow_zero]; omega
  | w :: v :: ws, h, _ => by
    have := canon_ge (ws := v :: ws) h (by simp)
    simp only [List.length_cons, Nat.add_sub_cancel] at this ⊢
    rw [Nat.pow_succ]
    simp only [val] at this ⊢
    omega

theorem words_len_lt {n k : Nat} (h : n < 4294967296 ^ k) : (wordsOf n).length ≤ k := by
  rcases Nat.lt_or_ge k (wordsOf n).length with hk | hk
  · have h1 := canon_ge (words_canon n) (by omega)
    rw [val_words] at h1
    have := Nat.le_trans (pow_le_pow (show k ≤ (wordsOf n).length - 1 by omega)) h1
    omega
  · exact hk
theorem lt_words (n : Nat) : n < 4294967296 ^ (wordsOf n).length := by
  have := val_lt (words_dig n)
  rwa [val_words] at this
theorem words_len_le {m n : Nat} (h : m ≤ n) : (wordsOf m).length ≤ (wordsOf n).length := words_len_lt (Nat.lt_of_le_of_lt h (lt_words n))
theorem words_mul_len (m n : Nat) : (wordsOf (m * n)).length ≤ (wordsOf m).length + (wordsOf n).length :=
  words_len_lt (by rw [Nat.pow_add]; exact Nat.mul_lt_mul'' (lt_words m) (lt_words n))
theorem words_add_len (m n : Nat) : (wordsOf (m + n)).length ≤ (wordsOf m).length + (wordsOf n).length + 1 := by
  have h1 := Nat.lt_of_lt_of_le (lt_words m) (pow_le_pow (Nat.le_add_right _ (wordsOf n).length))
  have h2 := Nat.lt_of_lt_of_le (lt_words n) (pow_le_pow (Nat.le_add_left _ (wordsOf m).length))
  exact words_len_lt (by rw [Nat.pow_succ]; omega)

theorem val_takeD (ws : List Nat) (i : Nat) : val (ws.take (i + 1)) = val (ws.take i) + ws[i]?.getD 0 * 4294967296 ^ i := by
  cases h : ws[i]? with
  | none =>
    have : ws.length ≤ i := List.getElem?_eq_none_iff.1 h
    rw [List.take_of_length_le (by omega), List.take_of_length_le this]; simp
  | some w => rw [val_take h]; rfl

end Go.Num
