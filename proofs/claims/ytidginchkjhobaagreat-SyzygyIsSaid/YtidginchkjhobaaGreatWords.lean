/- Slices of words as the interpreter sees them. -/
import Derived.Test.YtidginchkjhobaaGreatEvRet
import Derived.Test.YtidginchkjhobaaGreatNum
namespace Go.Ev
open Go.Num

theorem ex1 {α : Type} {p q : α → Prop} {x : α} (h : p x) (k : q x) : ∃ x, p x ∧ q x := ⟨x, h, k⟩

/-- Words as a pure list; as the cells of a block. -/
def wsP (ws : List Nat) : List (List PL) := ws.map fun w => [.int .u32 (.ofNat w)]
def wsD (ws : List Nat) : List (List DL) := ws.map fun w => [.p (.int .u32 (.ofNat w))]

theorem wsP_get {ws : List Nat} {i w : Nat} (h : ws[i]? = some w) : (wsP ws)[i]? = some [.int .u32 (.ofNat w)] := by simp [wsP, h]
theorem wsD_get {ws : List Nat} {i w : Nat} (h : ws[i]? = some w) : (wsD ws)[i]? = some [.p (.int .u32 (.ofNat w))] := by simp [wsD, h]
theorem wsP_len (ws : List Nat) : (wsP ws).length = ws.length := by simp [wsP]
theorem wsD_len (ws : List Nat) : (wsD ws).length = ws.length := by simp [wsD]
theorem wsP_take (ws : List Nat) (n : Nat) : (wsP ws).take n = wsP (ws.take n) := by simp [wsP, List.map_take]
theorem wsP_drop (ws : List Nat) (n : Nat) : (wsP ws).drop n = wsP (ws.drop n) := by simp [wsP, List.map_drop]
theorem wsD_take (ws : List Nat) (n : Nat) : (wsD ws).take n = wsD (ws.take n) := by simp [wsD, List.map_take]
theorem wsD_drop (ws : List Nat) (n : Nat) : (wsD ws).drop n = wsD (ws.drop n) := by simp [wsD, List.map_drop]
theorem wsD_set (ws : List Nat) (i w : Nat) : (wsD ws).set i [.p (.int .u32 (.ofNat w))] = wsD (ws.set i w) := by simp [wsD, List.map_set]
theorem wsD_rep (n : Nat) : List.replicate n [DL.p (.int .u32 (.ofNat 0))] = wsD (List.replicate n 0) := by simp [wsD]
theorem wsP_map (ws : List Nat) : (wsP ws).map (·.map DL.p) = wsD ws := by simp [wsP, wsD]
theorem frz_wsD (n : Nat) (h : HF) : ∀ (ws : List Nat), mapO (mapO (freezeL n h)) (wsD ws) = some (wsP ws)
  | [] => rfl
  | w :: ws => by
    have := frz_wsD n h ws
    simp only [wsD, wsP] at this
    simp only [wsD, wsP, List.map_cons, mapO, frzL0, this]
theorem ids_wsD (n : Nat) (h : HF) : ∀ (ws : List Nat), (wsD ws).flatMap (fun c => c.flatMap (idsL n h)) = []
  | [] => rfl
  | w :: ws => by
    have := ids_wsD n h ws
    simp only [wsD] at this
    simp only [wsD, List.map_cons, List.flatMap_cons, List.flatMap_nil, idsL0, this, List.append_nil]
theorem all_wsD (ws : List Nat) : (wsD ws).all (fun c => Nat.beq c.length 1) = true := by
  rw [List.all_eq_true]; intro c hc
  simp only [wsD, List.mem_map] at hc
  obtain ⟨w, -, rfl⟩ := hc; rfl

/-- A slice with these elements. -/
def Sl (l : PL) (es : List (List PL)) : Prop := l = .lst es ∨ (es = [] ∧ l = .nilS)

section
variable {l : PL} {es : List (List PL)} {h : HF} {sz i n : Nat} {c : List PL} {k : IntKind}
theorem Sl.lst : Sl (.lst es) es := .inl rfl
theorem Sl.nil : Sl .nilS [] := .inr ⟨rfl, rfl⟩
theorem Sl.len (s : Sl l es) : opLen [.one (.p l)] = some ⟨.one (.p (.int .i64 (.ofNat es.length))), [], [], []⟩ := by
  rcases s with rfl | ⟨rfl, rfl⟩ <;> rfl
theorem Sl.idx (s : Sl l es) (hi : es[i]? = some c) (hc : c.length = sz) : opIndexS sz h [.one (.p l), .one (.p (.int k (.ofNat i)))] = some ⟨.one (.p (.ref c)), [], [], []⟩ := by
  rcases s with rfl | ⟨rfl, rfl⟩
  · simp only [opIndexS, hi, beq_t hc, cond_true, Res.pure]
  · simp at hi
theorem Sl.upto (s : Sl l es) (hn : n ≤ es.length) (hsz : ∀ c ∈ es, c.length = sz) : ∃ l', sliceIn sz h (.p l) 0 (some n) = some (.p l', []) ∧ Sl l' (es.take n) := by
  rcases s with rfl | ⟨rfl, rfl⟩
  · refine ⟨.lst (es.take n), ?_, .lst⟩
    have hc : chunkLen sz es[0]? = true := by
      cases he : es[0]? with
      | none => rfl
      | some c => exact beq_t (hsz c (List.mem_of_getElem? he))
    have h0 : Nat.ble 0 n = true := ble_t (Nat.zero_le _)
    simp only [sliceIn, Option.getD_some, ble_t hn, hc, h0, Bool.and_self, cond_true, List.drop_zero]
  · have : n = 0 := by simpa using hn
    subst this
    exact ⟨.nilS, rfl, .nil⟩
theorem Sl.from (s : Sl l es) (hn : n ≤ es.length) (hsz : ∀ c ∈ es, c.length = sz) : ∃ l', sliceIn sz h (.p l) n none = some (.p l', []) ∧ Sl l' (es.drop n) := by
  rcases s with rfl | ⟨rfl, rfl⟩
  · refine ⟨.lst (es.drop n), ?_, .lst⟩
    have hc : chunkLen sz es[n]? = true := by
      cases he : es[n]? with
      | none => rfl
      | some c => exact beq_t (hsz c (List.mem_of_getElem? he))
    have h0 : Nat.ble es.length es.length = true := ble_t (Nat.le_refl _)
    simp only [sliceIn, Option.getD_none, ble_t hn, hc, h0, Bool.and_self, cond_true, List.take_length]
  · have : n = 0 := by simpa using hn
    subst this
    exact ⟨.nilS, rfl, by simpa using Sl.nil⟩
theorem Sl.chunks (s : Sl l es) : chunksOf h (.p l) = some (es.map (·.map .p), []) := by
  rcases s with rfl | ⟨rfl, rfl⟩ <;> rfl
end

/-- A slice of words. -/
abbrev SlW (l : PL) (ws : List Nat) : Prop := Sl l (wsP ws)
theorem SlW.len {l : PL} {ws : List Nat} (s : SlW l ws) : opLen [.one (.p l)] = some ⟨.one (.p (.int .i64 (.ofNat ws.length))), [], [], []⟩ := by
  rw [Sl.len s, wsP_len]
theorem SlW.idx {l : PL} {ws : List Nat} {h : HF} {i w : Nat} {k : IntKind} (s : SlW l ws) (hi : ws[i]? = some w) : opIndexS 1 h [.one (.p l), .one (.p (.int k (.ofNat i)))] = some ⟨.one (.p (.ref [.int .u32 (.ofNat w)])), [], [], []⟩ :=
  Sl.idx s (wsP_get hi) rfl
theorem wsP_one {ws : List Nat} : ∀ c ∈ wsP ws, c.length = 1 := by
  intro c hc
  simp only [wsP, List.mem_map] at hc
  obtain ⟨w, -, rfl⟩ := hc; rfl
theorem SlW.upto {l : PL} {ws : List Nat} {n : Nat} (s : SlW l ws) (hn : n ≤ ws.length) : ∃ l', (∀ h, sliceIn 1 h (.p l) 0 (some n) = some (.p l', [])) ∧ SlW l' (ws.take n) := by
  rcases s with rfl | ⟨e, rfl⟩
  · refine ⟨.lst (wsP (ws.take n)), fun h => ?_, .lst⟩
    have hc : chunkLen 1 (wsP ws)[0]? = true := by
      cases he : (wsP ws)[0]? with
      | none => rfl
      | some c => exact beq_t (wsP_one c (List.mem_of_getElem? he))
    have h0 : Nat.ble 0 n = true := ble_t (Nat.zero_le _)
    have h1 : Nat.ble n (wsP ws).length = true := ble_t (by rw [wsP_len]; exact hn)
    simp only [sliceIn, Option.getD_some, h1, hc, h0, Bool.and_self, cond_true, List.drop_zero, wsP_take]
  · have : ws = [] := by simpa [wsP] using e
    subst this
    have : n = 0 := by simpa using hn
    subst this
    exact ⟨.nilS, fun _ => rfl, .nil⟩

/-- A natural number, a number, in their cells. -/
abbrev IsW (l : PL) (n : Nat) : Prop := SlW l (wordsOf n)
theorem IsW.zero : IsW .nilS 0 := by show Sl .nilS (wsP (wordsOf 0)); rw [words_zero]; exact .nil
def IsI (c : List PL) (z : Int) : Prop := ∃ m, c = [.bool (decide (z < 0)), m] ∧ IsW m z.natAbs

theorem appNil_ws {e n : Nat} {ws : List Nat} {ids : List Nat} (h0 : ws ≠ []) (hl : ws.length < 1000000000000) : appendNil e 1 4 n (wsD ws) ids = some ⟨.one (.own n 0 0 ws.length), [⟨false, 0, 1, wsD ws, false, e⟩], [], ids⟩ := by
  have h1 : Nat.ble ((wsD ws).length * 4) lim = true := ble_t (by rw [wsD_len]; unfold lim; omega)
  have h2 : Nat.ble (wsD ws).length 9223372036854775807 = true := ble_t (by rw [wsD_len]; omega)
  cases ws with
  | nil => exact absurd rfl h0
  | cons w ws =>
    simp only [appendNil, h1, h2, Bool.and_self, cond_true]
    simp only [wsD, List.map_cons, List.length_cons, List.length_map]

/-- The sign of a number, as the functions answer it. -/
def sgn (z : Int) : Int := if z = 0 then .ofNat 0 else if z < 0 then .negSucc 0 else .ofNat 1
/-- A number of which no operation makes too much. -/
def Sm (z : Int) : Prop := (wordsOf z.natAbs).length < 100000000000

theorem words_len {n : Nat} : (wordsOf n).length = 1 ↔ 0 < n ∧ n < 4294967296 := by
  by_cases h : n = 0
  · subst h; rw [words_zero]; simp
  · rw [words_pos h]
    by_cases h2 : n / 4294967296 = 0
    · rw [h2, words_zero]; simp; omega
    · rw [words_pos h2]; simp; omega
theorem words_small {n : Nat} (h : 0 < n) (h2 : n < 4294967296) : wordsOf n = [n] := by
  rw [words_pos (by omega), show n / 4294967296 = 0 by omega, words_zero, Nat.mod_eq_of_lt h2]
theorem words_len0 {n : Nat} : (wordsOf n).length = 0 ↔ n = 0 := by
  by_cases h : n = 0
  · subst h; rw [words_zero]; simp
  · rw [words_pos h]; simp [h]

theorem IsI.len {c : List PL} {z : Int} (h : IsI c z) : ∃ n m, c = [.bool n, m] := by
  obtain ⟨m, rfl, -⟩ := h; exact ⟨_, m, rfl⟩

end Go.Ev
