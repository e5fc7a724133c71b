/- The order of the terms of a polynomial: the comparison, the one sorted list, and what the library's sort answers. -/
import Derived.Test.YtidginchkjhobaaGreatPol
import Derived.Test.YtidginchkjhobaaGreatEvRet
import Derived.Test.YtidginchkjhobaaGreatSorted
import Derived.Test.YtidginchkjhobaaGreatEvMapFn
namespace Go.Proofs.YtidginchkjhobaaGreat
open Go.Ev Go.Num

set_option maxRecDepth 100000 in
theorem len8_get {i : Nat} (h : i < 256) : ∃ b, (0 :: 1 :: 2 :: 2 :: 3 :: 3 :: 3 :: 3 :: 4 :: 4 :: 4 :: 4 :: 4 :: 4 :: 4 :: 4 :: 5 :: 5 :: 5 :: 5 :: 5 :: 5 :: 5 :: 5 :: 5 :: 5 :: 5 :: 5 :: 5 :: 5 :: 5 :: 5 :: 6 :: 6 :: 6 :: 6 :: 6 :: 6 :: 6 :: 6 :: 6 :: 6 :: 6 :: 6 :: 6 :: 6 :: 6 :: 6 :: 6 :: 6 :: 6 :: 6 :: 6 :: 6 :: 6 :: 6 :: 6 :: 6 :: 6 :: 6 :: 6 :: 6 :: 6 :: 6 :: 7 :: 7 :: 7 :: 7 :: 7 :: 7 :: 7 :: 7 :: 7 :: 7 :: 7 :: 7 :: 7 :: 7 :: 7 :: 7 :: 7 :: 7 :: 7 :: 7 :: 7 :: 7 :: 7 :: 7 :: 7 :: 7 :: 7 :: 7 :: 7 :: 7 :: 7 :: 7 :: 7 :: 7 :: 7 :: 7 :: 7 :: 7 :: 7 :: 7 :: 7 :: 7 :: 7 :: 7 :: 7 :: 7 :: 7 :: 7 :: 7 :: 7 :: 7 :: 7 :: 7 :: 7 :: 7 :: 7 :: 7 :: 7 :: 7 :: 7 :: 7 :: 7 :: 7 :: 7 :: 8 :: 8 :: 8 :: 8 :: 8 :: 8 :: 8 :: 8 :: 8 :: 8 :: 8 :: 8 :: 8 :: 8 :: 8 :: 8 :: 8 :: 8 :: 8 :: 8 :: 8 :: 8 :: 8 :: 8 :: 8 :: 8 :: 8 :: 8 :: 8 :: 8 :: 8 :: 8 :: 8 :: 8 :: 8 :: 8 :: 8 :: 8 :: 8 :: 8 :: 8 :: 8 :: 8 :: 8 :: 8 :: 8 :: 8 :: 8 :: 8 :: 8 :: 8 :: 8 :: 8 :: 8 :: 8 :: 8 :: 8 :: 8 :: 8 :: 8 :: 8 :: 8 :: 8 :: 8 :: 8 :: 8 :: 8 :: 8 :: 8 :: 8 :: 8 :: 8 :: 8 :: 8 :: 8 :: 8 :: 8 :: 8 :: 8 :: 8 :: 8 :: 8 :: 8 :: 8 :: 8 :: 8 :: 8 :: 8 :: 8 :: 8 :: 8 :: 8 :: 8 :: 8 :: 8 :: 8 :: 8 :: 8 :: 8 :: 8 :: 8 :: 8 :: 8 :: 8 :: 8 :: 8 :: 8 :: 8 :: 8 :: 8 :: 8 :: 8 :: 8 :: 8 :: 8 :: 8 :: 8 :: 8 :: 8 :: 8 :: 8 :: 8 :: 8 :: 8 :: 8 :: 8 :: 8 :: 8 :: [] : List Nat)[i]? = some b ∧ b ≤ 8 := by
  generalize hL : (0 :: 1 :: 2 :: 2 :: 3 :: 3 :: 3 :: 3 :: 4 :: 4 :: 4 :: 4 :: 4 :: 4 :: 4 :: 4 :: 5 :: 5 :: 5 :: 5 :: 5 :: 5 :: 5 :: 5 :: 5 :: 5 :: 5 :: 5 :: 5 :: 5 :: 5 :: 5 :: 6 :: 6 :: 6 :: 6 :: 6 :: 6 :: 6 :: 6 :: 6 :: 6 :: 6 :: 6 :: 6 :: 6 :: 6 :: 6 :: 6 :: 6 :: 6 :: 6 :: 6 :: 6 :: 6 :: 6 :: 6 :: 6 :: 6 :: 6 :: 6 :: 6 :: 6 :: 6 :: 7 :: 7 :: 7 :: 7 :: 7 :: 7 :: 7 :: 7 :: 7 :: 7 :: 7 :: 7 :: 7 :: 7 :: 7 :: 7 :: 7 :: 7 :: 7 :: 7 :: 7 :: 7 :: 7 :: 7 :: 7 :: 7 :: 7 :: 7 :: 7 :: 7 :: 7 :: 7 :: 7 :: 7 :: 7 :: 7 :: 7 :: 7 :: 7 :: 7 :: 7 :: 7 :: 7 :: 7 :: 7 :: 7 :: 7 :: 7 :: 7 :: 7 :: 7 :: 7 :: 7 :: 7 :: 7 :: 7 :: 7 :: 7 :: 7 :: 7 :: 7 :: 7 :: 7 :: 7 :: 8 :: 8 :: 8 :: 8 :: 8 :: 8 :: 8 :: 8 :: 8 :: 8 :: 8 :: 8 :: 8 :: 8 :: 8 :: 8 :: 8 :: 8 :: 8 :: 8 :: 8 :: 8 :: 8 :: 8 :: 8 :: 8 :: 8 :: 8 :: 8 :: 8 :: 8 :: 8 :: 8 :: 8 :: 8 :: 8 :: 8 :: 8 :: 8 :: 8 :: 8 :: 8 :: 8 :: 8 :: 8 :: 8 :: 8 :: 8 :: 8 :: 8 :: 8 :: 8 :: 8 :: 8 :: 8 :: 8 :: 8 :: 8 :: 8 :: 8 :: 8 :: 8 :: 8 :: 8 :: 8 :: 8 :: 8 :: 8 :: 8 :: 8 :: 8 :: 8 :: 8 :: 8 :: 8 :: 8 :: 8 :: 8 :: 8 :: 8 :: 8 :: 8 :: 8 :: 8 :: 8 :: 8 :: 8 :: 8 :: 8 :: 8 :: 8 :: 8 :: 8 :: 8 :: 8 :: 8 :: 8 :: 8 :: 8 :: 8 :: 8 :: 8 :: 8 :: 8 :: 8 :: 8 :: 8 :: 8 :: 8 :: 8 :: 8 :: 8 :: 8 :: 8 :: 8 :: 8 :: 8 :: 8 :: 8 :: 8 :: 8 :: 8 :: 8 :: 8 :: 8 :: 8 :: 8 :: 8 :: [] : List Nat) = L
  have hl : L.length = 256 := by subst hL; rfl
  have hb : L.all (fun b => Nat.ble b 8) = true := by subst hL; rfl
  rw [List.all_eq_true] at hb
  have hi : i < L.length := by rw [hl]; exact h
  exact ⟨_, List.getElem?_eq_getElem hi, ble_le (hb _ (List.getElem_mem hi))⟩

theorem idx_of {bs : List Nat} {i b : Nat} (hb : bs[i]? = some b) (k : IntKind) : opIndexStr [.one (.p (.str bs)), .one (.p (.int k (.ofNat i)))] = some ⟨.one (.p (.int .u8 (.ofNat b))), [], [], []⟩ := by
  simp only [opIndexStr, hb]; rfl
theorem shr_8 (a : Nat) : binShr .u64 (.ofNat a) (.ofNat 8) = some (.p (.int .u64 (.ofNat (a / 256)))) := rfl
theorem wrap_u8 {a : Nat} (h : a < 256) : wrapF .u8 (.ofNat a) = .ofNat a := by
  show Int.ofNat (a % 256) = _
  rw [Nat.mod_eq_of_lt h]

set_option maxRecDepth 100000 in
set_option maxHeartbeats 4000000 in
theorem bitsLen_ret {B : Base} (hB : Std B) {n : Nat} (hn : n < 65536) : ∃ l, l < 100 ∧ Ret B 187 [.one (.int .u64 (.ofNat n))] (.one (.int .i64 (.ofNat l))) := by
  have key : ∃ l, l < 100 ∧ Ret B 207 [.one (.int .u64 (.ofNat n))] (.one (.int .i64 (.ofNat l))) := by
    have h1 : ¬ 4294967296 ≤ n := by omega
    have h2 : ¬ 65536 ≤ n := by omega
    by_cases h3 : 256 ≤ n
    · obtain ⟨b, hb, hb8⟩ := len8_get (i := n / 256) (by omega)
      have f0 : wrapF .i64 (.ofNat b) = .ofNat b := wrap_i64 (by omega)
      have f1 : wrapF .i64 (.ofNat (8 + b)) = .ofNat (8 + b) := wrap_i64 (by omega)
      have f2 : wrapF .u8 (.ofNat (n / 256)) = .ofNat (n / 256) := wrap_u8 (by omega)
      refine ⟨8 + b, by omega, Ret.of (hB.tab _ _ rfl) (hB.evt.mono fun E K hmd => ?_)⟩
      have q1 : ∀ vs, isHeapOp E .indexStr vs = false := fun _ => rfl
      have q2 : isHeapCall E .indexStr = false := rfl
      have q3 : ∀ (b : Nat) (vs : List DV) (h : HF) (n : Nat), evOp E b .indexStr vs h n = opIndexStr vs := fun _ _ _ _ => rfl
      simp only [EVS, EVN, q1, q3, reduceIte, Nat.reduceEqDiff, Nat.reduceLeDiff, x207, h1, h2, h3, shr_8, idx_of hb, f0, f1, f2, w1]
    · obtain ⟨b, hb, hb8⟩ := len8_get (i := n) (by omega)
      have f0 : wrapF .i64 (.ofNat b) = .ofNat b := wrap_i64 (by omega)
      have f1 : wrapF .i64 (.ofNat (0 + b)) = .ofNat b := by rw [Nat.zero_add]; exact wrap_i64 (by omega)
      have f2 : wrapF .u8 (.ofNat n) = .ofNat n := wrap_u8 (by omega)
      refine ⟨b, by omega, Ret.of (hB.tab _ _ rfl) (hB.evt.mono fun E K hmd => ?_)⟩
      have q1 : ∀ vs, isHeapOp E .indexStr vs = false := fun _ => rfl
      have q2 : isHeapCall E .indexStr = false := rfl
      have q3 : ∀ (b : Nat) (vs : List DV) (h : HF) (n : Nat), evOp E b .indexStr vs h n = opIndexStr vs := fun _ _ _ _ => rfl
      simp only [EVS, EVN, q1, q3, reduceIte, Nat.reduceEqDiff, Nat.reduceLeDiff, x207, h1, h2, h3, idx_of hb, f0, f2]
  obtain ⟨l, hl, hk⟩ := key
  refine ⟨l, hl, Ret.of (hB.tab _ _ rfl) ((hk.evt.and hB.evt).mono fun E K ⟨e1, hmd⟩ => ?_)⟩
  simp only [EVS, EVN, reduceIte, Nat.reduceEqDiff, Nat.reduceLeDiff, x187, hmd, MDS, e1]

theorem sortedCmp_ret {B : Base} (hB : Std B) {x y z u x2 y2 z2 u2 : PL} {m n : List Nat} (hm : m.length = 8) (hn : n.length = 8) :
    Ret B 166 [.agg (x :: y :: z :: u :: mo m), .agg (x2 :: y2 :: z2 :: u2 :: mo n)] (.one (.int .i64 (cmpL n m))) := by
  have hc := monoCmp_ret hB hn hm
  have tm : (moD m).take 8 = moD m := List.take_of_length_le (by rw [moD_len]; omega)
  have tn : (moD n).take 8 = moD n := List.take_of_length_le (by rw [moD_len]; omega)
  refine Ret.of (hB.tab _ _ rfl) ((hc.evt.and hB.evt).mono fun E K ⟨e1, hmd⟩ => ?_)
  simp only [EVS, EVN, EVF, reduceIte, Nat.reduceEqDiff, Nat.reduceLeDiff, Nat.reduceAdd, x166, hmd, MDS, e1, mo_D, moD_len, hm, hn, tm, tn, frz_moD, ids_moD]

end Go.Proofs.YtidginchkjhobaaGreat

namespace Go.Proofs.YtidginchkjhobaaGreat
open Go.Ev Go.Num

def natO : PL → Option Nat
  | .int .i64 (.ofNat n) => bif Nat.ble n 65535 then some n else none
  | _ => none
/-- The monomial of a term. -/
def monO (c : List PL) : Option (List Nat) := match c with
  | _ :: _ :: _ :: _ :: m => bif Nat.beq m.length 8 then mapO natO m else none
  | _ => none
def monM (c : List PL) : List Nat := (monO c).getD []
def isTerm (c : List PL) : Bool := (monO c).isSome

theorem natO_spec {l : PL} {n : Nat} (h : natO l = some n) : l = .int .i64 (.ofNat n) ∧ n ≤ 65535 := by
  unfold natO at h
  split at h
  · obtain ⟨h1, rfl⟩ := cond_some h
    exact ⟨rfl, ble_le h1⟩
  · cases h
theorem natO_mo : ∀ {l : List PL} {m : List Nat}, mapO natO l = some m → l = mo m ∧ ∀ e ∈ m, e ≤ 65535
  | [], m, h => by cases h; exact ⟨rfl, fun _ h => by cases h⟩
  | x :: l, m, h => by
    simp only [mapO] at h
    split at h
    · cases h
    · rename_i n hn
      split at h
      · cases h
      · rename_i ns hns
        cases h
        obtain ⟨rfl, h1⟩ := natO_spec hn
        obtain ⟨rfl, h2⟩ := natO_mo hns
        refine ⟨rfl, fun e he => ?_⟩
        rcases List.mem_cons.1 he with rfl | he
        · exact h1
        · exact h2 e he
theorem mapO_mo : ∀ {m : List Nat}, (∀ e ∈ m, e ≤ 65535) → mapO natO (mo m) = some m
  | [], _ => rfl
  | e :: m, h => by
    have ih := mapO_mo (m := m) fun x hx => h x (List.mem_cons_of_mem _ hx)
    unfold mo at ih
    have : Nat.ble e 65535 = true := ble_t (h e (List.mem_cons_self ..))
    simp only [mo, List.map_cons, mapO, natO, this, cond_true, ih]
theorem monO_spec {c : List PL} {m : List Nat} (h : monO c = some m) : ∃ x y z u, c = x :: y :: z :: u :: mo m ∧ MoOk m := by
  unfold monO at h
  split at h
  · rename_i x y z u l
    obtain ⟨h1, h2⟩ := cond_or h
    obtain ⟨rfl, h3⟩ := natO_mo h2
    refine ⟨x, y, z, u, rfl, ?_, h3⟩
    have := Nat.eq_of_beq_eq_true h1
    simpa [mo] using this
  · cases h
theorem monO_term {x y z u : PL} {m : List Nat} (h : MoOk m) : monO (x :: y :: z :: u :: mo m) = some m := by
  have h1 : Nat.beq (mo m).length 8 = true := by rw [mo_len, h.1]; rfl
  simp only [monO, h1, cond_true, mapO_mo h.2]
theorem isTerm_spec {c : List PL} (h : isTerm c = true) : ∃ x y z u, c = x :: y :: z :: u :: mo (monM c) ∧ MoOk (monM c) := by
  unfold isTerm at h
  obtain ⟨m, hm⟩ := Option.isSome_iff_exists.1 h
  unfold monM
  rw [hm]
  exact monO_spec hm
theorem monM_term {x y z u : PL} {m : List Nat} (h : MoOk m) : monM (x :: y :: z :: u :: mo m) = m := by
  unfold monM; rw [monO_term h]; rfl

/-- The comparison: greater monomials first. -/
def cmpS (x y : List PL) : Int := cmpL (monM y) (monM x)
def isNeg : Int → Bool
  | .negSucc _ => true
  | _ => false
theorem isNeg_iff (z : Int) : isNeg z = true ↔ z < 0 := by
  cases z with
  | ofNat n => simp [isNeg]
  | negSucc n => simp only [isNeg, true_iff]; omega

theorem cmpL_neg_iff {m n : List Nat} : cmpL m n < 0 ↔ cmpL m n = .negSucc 0 := by
  rcases cmpL_cases m n with h | h | h <;> rw [h] <;> decide
theorem cmpL_flip : ∀ (m n : List Nat), cmpL n m = .negSucc 0 ↔ cmpL m n = .ofNat 1
  | [], [] => by simp [cmpL]
  | [], _ :: _ => by simp [cmpL]
  | _ :: _, [] => by simp [cmpL]
  | a :: m, b :: n => by
    simp only [cmpL]
    by_cases h1 : b < a
    · have h2 : ¬ a < b := by omega
      simp [h1, h2]
    · by_cases h2 : a < b
      · simp [h1, h2]
      · simp only [h1, h2, if_false]; exact cmpL_flip m n
theorem cmpL_flip0 : ∀ (m n : List Nat), cmpL n m = .ofNat 0 ↔ cmpL m n = .ofNat 0
  | [], [] => by simp [cmpL]
  | [], _ :: _ => by simp [cmpL]
  | _ :: _, [] => by simp [cmpL]
  | a :: m, b :: n => by
    simp only [cmpL]
    by_cases h1 : b < a
    · have h2 : ¬ a < b := by omega
      simp [h1, h2]
    · by_cases h2 : a < b
      · simp [h1, h2]
      · simp only [h1, h2, if_false]; exact cmpL_flip0 m n
theorem cmpL_trans : ∀ {l m n : List Nat}, l.length = m.length → m.length = n.length → cmpL l m = .ofNat 1 → cmpL m n = .ofNat 1 → cmpL l n = .ofNat 1
  | [], _, _, _, _, h, _ => by simp [cmpL] at h
  | _ :: _, [], _, h, _, _, _ => by simp at h
  | _ :: _, _ :: _, [], _, h, _, _ => by simp at h
  | a :: l, b :: m, c :: n, h1, h2, h3, h4 => by
    simp only [cmpL] at h3 h4 ⊢
    by_cases q1 : a < b
    · simp [q1] at h3
    · by_cases q2 : b < c
      · simp [q2] at h4
      · by_cases q3 : b < a
        · have : c < a := by omega
          have : ¬ a < c := by omega
          simp [*]
        · by_cases q4 : c < b
          · have : c < a := by omega
            have : ¬ a < c := by omega
            simp [*]
          · simp only [q1, q3, if_false] at h3
            simp only [q2, q4, if_false] at h4
            have : ¬ a < c := by omega
            have : ¬ c < a := by omega
            simp only [*, if_false]
            exact cmpL_trans (by simpa using h1) (by simpa using h2) h3 h4

/-- Insertion into a sorted list; the sorted list. -/
def ins (c : List PL) : List (List PL) → List (List PL)
  | [] => [c]
  | d :: ds => bif isNeg (cmpS d c) then d :: ins c ds else c :: d :: ds
def isort : List (List PL) → List (List PL)
  | [] => []
  | c :: cs => ins c (isort cs)

theorem ins_perm (c : List PL) : ∀ ds, (ins c ds).Perm (c :: ds)
  | [] => .refl _
  | d :: ds => by
    unfold ins
    cases isNeg (cmpS d c) with
    | true => exact ((ins_perm c ds).cons d).trans (.swap ..)
    | false => exact .refl _
theorem isort_perm : ∀ cs, (isort cs).Perm cs
  | [] => .refl _
  | c :: cs => (ins_perm c _).trans ((isort_perm cs).cons c)

/-- Terms whose monomials differ. -/
def Terms (cs : List (List PL)) : Prop := ∀ c ∈ cs, isTerm c = true

theorem cmpS_irr {x : List PL} : ¬ cmpS x x < 0 := by
  unfold cmpS; rw [cmpL_self]; decide
theorem cmpS_tr {x y z : List PL} (hx : isTerm x = true) (hy : isTerm y = true) (hz : isTerm z = true) (h1 : cmpS x y < 0) (h2 : cmpS y z < 0) : cmpS x z < 0 := by
  obtain ⟨_, _, _, _, -, l1, -⟩ := isTerm_spec hx
  obtain ⟨_, _, _, _, -, l2, -⟩ := isTerm_spec hy
  obtain ⟨_, _, _, _, -, l3, -⟩ := isTerm_spec hz
  unfold cmpS at *
  rw [cmpL_neg_iff, cmpL_flip] at *
  exact cmpL_trans (by omega) (by omega) h1 h2
theorem cmpS_tot {x y : List PL} (hx : isTerm x = true) (hy : isTerm y = true) (h1 : ¬ cmpS x y < 0) (h2 : ¬ cmpS y x < 0) : monM x = monM y := by
  obtain ⟨_, _, _, _, -, l1, -⟩ := isTerm_spec hx
  obtain ⟨_, _, _, _, -, l2, -⟩ := isTerm_spec hy
  unfold cmpS at *
  rw [cmpL_neg_iff] at h1 h2
  rw [cmpL_flip] at h1
  rcases cmpL_cases (monM x) (monM y) with h | h | h
  · exact absurd h h1
  · exact absurd h h2
  · exact cmpL_zero (by omega) h
theorem cmpS_ntr {x y z : List PL} (hx : isTerm x = true) (hy : isTerm y = true) (hz : isTerm z = true) (h1 : ¬ cmpS x y < 0) (h2 : ¬ cmpS y z < 0) : ¬ cmpS x z < 0 := by
  intro h3
  by_cases h4 : cmpS y x < 0
  · exact h2 (cmpS_tr hy hx hz h4 h3)
  · have e := cmpS_tot hx hy h1 h4
    exact h2 (by unfold cmpS at h3 ⊢; rw [← e]; exact h3)

theorem ins_sorted {c : List PL} (hc : isTerm c = true) : ∀ {ds : List (List PL)}, Terms ds → ds.Pairwise (fun x y => ¬ cmpS y x < 0) → (ins c ds).Pairwise fun x y => ¬ cmpS y x < 0
  | [], _, _ => by simp [ins]
  | d :: ds, ht, h => by
    have hd := ht d (List.mem_cons_self ..)
    have ht' : Terms ds := fun x hx => ht x (List.mem_cons_of_mem _ hx)
    obtain ⟨h1, h2⟩ := List.pairwise_cons.1 h
    unfold ins
    cases hn : isNeg (cmpS d c) with
    | true =>
      rw [isNeg_iff] at hn
      refine List.pairwise_cons.2 ⟨fun x hx => ?_, ins_sorted hc ht' h2⟩
      rcases List.mem_cons.1 ((ins_perm c ds).mem_iff.1 hx) with rfl | hx
      · intro hq; exact cmpS_irr (cmpS_tr hd hc hd hn hq)
      · exact h1 x hx
    | false =>
      have hn' : ¬ cmpS d c < 0 := fun q => by rw [← isNeg_iff] at q; rw [q] at hn; cases hn
      refine List.pairwise_cons.2 ⟨fun x hx => ?_, h⟩
      rcases List.mem_cons.1 hx with rfl | hx
      · exact hn'
      · exact cmpS_ntr (ht' x hx) hd hc (h1 x hx) hn'
theorem isort_terms {cs : List (List PL)} (h : Terms cs) : Terms (isort cs) := fun c hc => h c ((isort_perm cs).mem_iff.1 hc)
theorem isort_sorted : ∀ {cs : List (List PL)}, Terms cs → (isort cs).Pairwise fun x y => ¬ cmpS y x < 0
  | [], _ => .nil
  | c :: cs, h => ins_sorted (h c (List.mem_cons_self ..)) (isort_terms fun x hx => h x (List.mem_cons_of_mem _ hx)) (isort_sorted fun x hx => h x (List.mem_cons_of_mem _ hx))
/-- No two terms have one monomial. -/
def Distinct (cs : List (List PL)) : Prop := ∀ x ∈ cs, ∀ y ∈ cs, monM x = monM y → x = y
theorem isort_unique {cs ds : List (List PL)} (h : Terms cs) (hd : Distinct cs) (hp : ds.Perm cs) : isort ds = isort cs := by
  have ht : Terms ds := fun c hc => h c (hp.mem_iff.1 hc)
  refine List.Perm.eq_of_pairwise (le := fun x y => ¬ cmpS y x < 0) (fun x y hx hy h1 h2 => ?_) (isort_sorted ht) (isort_sorted h) ((isort_perm ds).trans (hp.trans (isort_perm cs).symm))
  have hx' := hp.mem_iff.1 ((isort_perm ds).mem_iff.1 hx)
  have hy' := (isort_perm cs).mem_iff.1 hy
  exact hd x hx' y hy' (cmpS_tot (h x hx') (h y hy') h2 h1)

def unP : DL → Option PL
  | .p l => some l
  | _ => none
theorem unP_map : ∀ (l : List PL), mapO unP (l.map DL.p) = some l
  | [] => rfl
  | x :: l => by simp only [List.map_cons, mapO, unP, unP_map l]
theorem unP_pc : ∀ (es : List (List PL)), mapO (mapO unP) (pc es) = some es
  | [] => rfl
  | e :: es => by
    have := unP_pc es
    unfold pc at this
    simp only [pc, List.map_cons, mapO, unP_map, this]
theorem unP_inv : ∀ {l : List DL} {r : List PL}, mapO unP l = some r → l = r.map DL.p
  | [], r, h => by cases h; rfl
  | x :: l, r, h => by
    simp only [mapO] at h
    split at h
    · cases h
    · rename_i y hy
      split at h
      · cases h
      · rename_i ys hys
        cases h
        rw [unP_inv hys]
        cases x <;> simp [unP] at hy
        subst hy; rfl
theorem unPc_inv : ∀ {l : List (List DL)} {r : List (List PL)}, mapO (mapO unP) l = some r → l = pc r
  | [], r, h => by cases h; rfl
  | x :: l, r, h => by
    simp only [mapO] at h
    split at h
    · cases h
    · rename_i y hy
      split at h
      · cases h
      · rename_i ys hys
        cases h
        rw [unPc_inv hys, unP_inv hy]; rfl

/-- All monomials differ from each other; decided. -/
def noDup : List (List PL) → Bool
  | [] => true
  | c :: cs => cs.all (fun d => !(eqLs Nat.beq (monM c) (monM d))) && noDup cs
theorem eqLs_self : ∀ (m : List Nat), eqLs Nat.beq m m = true
  | [] => rfl
  | a :: m => by simp [eqLs, eqLs_self m]
theorem noDup_spec : ∀ {cs : List (List PL)}, noDup cs = true → Distinct cs
  | [], _ => fun _ h => by cases h
  | c :: cs, h => by
    simp only [noDup, Bool.and_eq_true, List.all_eq_true, Bool.not_eq_true'] at h
    obtain ⟨h1, h2⟩ := h
    have ih := noDup_spec h2
    have key : ∀ d ∈ cs, monM c ≠ monM d := by
      intro d hd e
      have := h1 d hd
      rw [e, eqLs_self] at this; cases this
    intro x hx y hy e
    rcases List.mem_cons.1 hx with px | px <;> rcases List.mem_cons.1 hy with py | py
    · rw [px, py]
    · rw [px] at e; exact absurd e (key y py)
    · rw [py] at e; exact absurd e.symm (key x px)
    · exact ih x px y py e

/-- What the library's sort answers at terms. -/
def pdqAns (args : List DV) (H : List Blk) : Option (DV × List Blk) :=
  match args with
  | [.one (.own i ver 0 n), .one (.p (.int .i64 (.ofNat 0))), .one (.p (.int .i64 (.ofNat n2))), .one (.p (.int .i64 (.ofNat lm))), .one (.p (.fn g []))] =>
    bif Nat.beq g 166 && Nat.blt lm 4611686018427387904 then
      match H[i]? with
      | some b => match mapO (mapO unP) b.ch with
        | some es => bif !b.mp && !b.fz && Nat.beq ver b.ver && Nat.beq b.sz 12 && Nat.beq n es.length && Nat.beq n2 es.length && Nat.blt es.length 1000000 && es.all isTerm && noDup es then some (.tup [], H.set i { b with ch := (isort es).map (·.map .p) }) else none
        | none => none
      | none => none
    else none
  | _ => none

end Go.Proofs.YtidginchkjhobaaGreat

namespace Go.Proofs.YtidginchkjhobaaGreat
open Go.Ev Go.Num

/-- Bases that answer the library's sort. -/
structure StdP (B : Base) : Prop extends Std B where
  pdq : ∀ args H r, pdqAns args H = some r → B.E0.heap 186 args H = some r

theorem pdqAns_eq {H : List Blk} {i v : Nat} {es : List (List PL)} {ty lm : Nat} (hi : H[i]? = some ⟨false, v, 12, pc es, false, ty⟩) (ht : Terms es) (hd : noDup es = true) (hl : es.length < 60000) (hlm : lm < 100) :
    pdqAns [.one (.own i v 0 es.length), .one (.p (.int .i64 (.ofNat 0))), .one (.p (.int .i64 (.ofNat es.length))), .one (.p (.int .i64 (.ofNat lm))), .one (.p (.fn 166 []))] H =
      some (.tup [], H.set i ⟨false, v, 12, pc (isort es), false, ty⟩) := by
  have h1 : Nat.blt lm 4611686018427387904 = true := blt_t (by omega)
  have h2 : Nat.blt es.length 1000000 = true := blt_t (by omega)
  have h3 : es.all isTerm = true := List.all_eq_true.2 ht
  simp only [pdqAns, Nat.beq_refl, h1, hi, unP_pc, h2, h3, hd, Bool.and_self, Bool.not_false, cond_true]
  rfl

set_option maxRecDepth 100000 in
set_option maxHeartbeats 4000000 in
theorem sortF_ret {B : Base} (hB : StdP B) {H : List Blk} {i v : Nat} {es : List (List PL)} {ty : Nat} (hi : H[i]? = some ⟨false, v, 12, pc es, false, ty⟩) (ht : Terms es) (hd : noDup es = true) (hl : es.length < 60000) :
    RetH B 165 [.one (.own i v 0 es.length), .one (.p (.fn 166 []))] H (.tup []) (H.set i ⟨false, v, 12, pc (isort es), false, ty⟩) := by
  obtain ⟨lm, hlm, h1⟩ := bitsLen_ret hB.toStd (n := es.length) (by omega)
  have h2 := RetH.base (B := B) (hB.pdq _ _ _ (pdqAns_eq hi ht hd hl hlm))
  have f1 : es.length % 18446744073709551616 = es.length := Nat.mod_eq_of_lt (by omega)
  refine RetH.of (hB.tab _ _ rfl) ((h1.evt.and (h2.evt.and hB.toStd.evt)).mono fun E K ⟨e1, e2, hmd⟩ => ?_)
  simp only [EVS, EVH, EVN, reduceIte, Nat.reduceEqDiff, Nat.reduceLeDiff, Nat.reduceAdd, x165, hmd, MDS, e1, e2, f1]

end Go.Proofs.YtidginchkjhobaaGreat

namespace Go.Proofs.YtidginchkjhobaaGreat
open Go.Ev Go.Num

/-- The term of an entry. -/
def entT (c : List DL) : Option (List PL) :=
  match mapO unP c with
  | some l => match l.drop 8 with
    | [.bool n, y, z, u] => match y with
      | .nilS => bif isTerm (.bool n :: y :: z :: u :: l.take 8) then some (.bool n :: y :: z :: u :: l.take 8) else none
      | .lst _ => bif isTerm (.bool n :: y :: z :: u :: l.take 8) then some (.bool n :: y :: z :: u :: l.take 8) else none
      | _ => none
    | _ => none
  | none => none
def nz (t : List PL) : Bool := match t with
  | _ :: .lst (_ :: _) :: _ => true
  | _ => false

/-- What 'sorted' answers. -/
def sortedAns (args : List DV) (H : List Blk) : Option (DV × List Blk) :=
  match args with
  | [.one (.mp i)] => match H[i]? with
    | some b => bif b.mp && Nat.beq b.ty 1 && Nat.beq b.sz 8 && Nat.blt b.ch.length 60000 then
        match mapO entT b.ch with
        | some ts => bif noDup ts then some (inj (.one (.lst (isort (ts.filter nz)))), H.map frzB) else none
        | none => none
      else none
    | none => none
  | _ => none

theorem entT_spec {c : List DL} {t : List PL} (h : entT c = some t) : ∃ n y z u m es, c = moD m ++ [.p (.bool n), .p y, .p z, .p u] ∧ t = .bool n :: y :: z :: u :: mo m ∧ MoOk m ∧ Sl y es ∧ nz t = !es.isEmpty := by
  unfold entT at h
  split at h
  · rename_i l hl
    have hc := unP_inv hl
    split at h
    · rename_i n y z u hd
      have key : ∀ es, Sl y es → (bif isTerm (.bool n :: y :: z :: u :: l.take 8) then some (.bool n :: y :: z :: u :: l.take 8) else none) = some t → nz (.bool n :: y :: z :: u :: l.take 8) = !es.isEmpty → ∃ n y z u m es, c = moD m ++ [.p (.bool n), .p y, .p z, .p u] ∧ t = .bool n :: y :: z :: u :: mo m ∧ MoOk m ∧ Sl y es ∧ nz t = !es.isEmpty := by
        intro es hs h hz
        obtain ⟨h1, rfl⟩ := cond_some h
        obtain ⟨x', y', z', u', e, hm⟩ := isTerm_spec h1
        generalize monM (.bool n :: y :: z :: u :: l.take 8) = m at e hm
        simp only [List.cons.injEq] at e
        obtain ⟨-, -, -, -, e⟩ := e
        refine ⟨n, y, z, u, m, es, ?_, by rw [e], hm, hs, hz⟩
        rw [hc, ← List.take_append_drop 8 l, hd, List.map_append, e, mo_D]
        rfl
      split at h
      · exact key [] .nil h rfl
      · rename_i es
        exact key es .lst h (by cases es <;> rfl)
      · cases h
    · cases h
  · cases h

set_option maxRecDepth 100000 in
set_option maxHeartbeats 4000000 in
theorem sign_any {B : Base} (hB : Std B) {n : Bool} {y z u : PL} {es : List (List PL)} (hs : Sl y es) :
    ∃ s, Ret B 158 [.agg [.bool n, y, z, u]] (.one (.int .i64 s)) ∧ eqF s (.ofNat 0) = es.isEmpty := by
  have key : ∃ s, Ret B 146 [.agg [.bool n, y]] (.one (.int .i64 s)) ∧ eqF s (.ofNat 0) = es.isEmpty := by
    cases es with
    | nil =>
      refine ⟨.ofNat 0, Ret.of (hB.tab _ _ rfl) (hB.evt.mono fun E K hmd => ?_), rfl⟩
      simp only [EVS, EVN, reduceIte, Nat.reduceEqDiff, Nat.reduceLeDiff, Nat.reduceAdd, x146, hs.len]
    | cons c es =>
      have h0 : ¬ es.length + 1 = 0 := by omega
      cases n with
      | true =>
        refine ⟨.negSucc 0, Ret.of (hB.tab _ _ rfl) (hB.evt.mono fun E K hmd => ?_), rfl⟩
        simp only [EVS, EVN, reduceIte, Nat.reduceEqDiff, Nat.reduceLeDiff, Nat.reduceAdd, x146, hs.len, h0]
      | false =>
        refine ⟨.ofNat 1, Ret.of (hB.tab _ _ rfl) (hB.evt.mono fun E K hmd => ?_), rfl⟩
        simp only [EVS, EVN, reduceIte, Nat.reduceEqDiff, Nat.reduceLeDiff, Nat.reduceAdd, x146, hs.len, h0]
  obtain ⟨s, h1, h2⟩ := key
  refine ⟨s, Ret.of (hB.tab _ _ rfl) ((h1.evt.and hB.evt).mono fun E K ⟨e1, hmd⟩ => ?_), h2⟩
  simp only [EVS, EVN, reduceIte, Nat.reduceEqDiff, Nat.reduceLeDiff, Nat.reduceAdd, x158, hmd, MDS, e1]

theorem ex2 {α β : Type} {p q : α → β → Prop} {x : α} {y : β} (h : p x y) (k : q x y) : ∃ x y, p x y ∧ q x y := ⟨x, y, h, k⟩
abbrev itB : Blk := ⟨true, 0, 0, [], true, 2⟩

set_option maxRecDepth 100000 in
set_option maxHeartbeats 4000000 in
theorem round_nz {E : Oracle} {K : Nat} (hmd : E.mode = md) {n : Bool} {y z u : PL} {m : List Nat} (hm : m.length = 8) {s : Int} (hs : E.pure 158 [.agg [.bool n, y, z, u]] = some (.one (.int .i64 s))) (h0 : eqF s (.ofNat 0) = false)
    {B0 : Blk} {T : List (Nat × DV)} {v : Nat} {o : List (List PL)} {G : List Blk} (ho : o.length < 100000) (h3 : getT T 3 = some (.one (.own 1 v 0 o.length))) (hit : getT T 10 = some (.one (.ptr 2 0 0 0))) :
    ∃ T' G', rmRound E K rmS 2 ⟨T, B0 :: ⟨false, v, 12, pc o, false, 75⟩ :: itB :: G⟩ (moD m ++ [.p (.bool n), .p y, .p z, .p u]) = some ⟨T', B0 :: ⟨false, v + 1, 12, pc (o ++ [.bool n :: y :: z :: u :: mo m]), false, 75⟩ :: itB :: G'⟩ ∧
      getT T' 3 = some (.one (.own 1 (v + 1) 0 (o.length + 1))) ∧ getT T' 10 = some (.one (.ptr 2 0 0 0)) := by
  have tk : (moD m ++ [DL.p (.bool n), .p y, .p z, .p u]).take 8 = moD m := by rw [List.take_append_of_le_length (by rw [moD_len]; omega), List.take_of_length_le (by rw [moD_len]; omega)]
  have dk : (moD m ++ [DL.p (.bool n), .p y, .p z, .p u]).drop 8 = [.p (.bool n), .p y, .p z, .p u] := by
    rw [List.drop_append_of_le_length (by rw [moD_len]; omega), List.drop_eq_nil_of_le (by rw [moD_len]; omega)]; rfl
  have tm : (moD m).take 8 = moD m := List.take_of_length_le (by rw [moD_len]; omega)
  have dm : (moD m).drop 8 = [] := List.drop_eq_nil_of_le (by rw [moD_len]; omega)
  have f2 : (o.length + 1) * 128 ≤ lim := by unfold lim; omega
  have f3 : o.length + 1 ≤ 9223372036854775807 := by omega
  have g2 : ∀ (a b c : Blk), (G ++ [a, b] ++ [c])[G.length + 2]? = some c := by intro a b c; simp
  apply ex2
  · unfold rmRound
    simp only [EVS, EVN, EVF, rmS, zTerm, tk, dk, reduceIte, Nat.reduceEqDiff, Nat.reduceLeDiff, Nat.reduceLT, Nat.reduceAdd, h3, hit, hm, moD_len, tm, hmd, MDS, hs, h0, f2, f3, pc_len, pc_snoc, g2, itOk]
    rfl
  · simp only [EVS, reduceIte, Nat.reduceEqDiff, h3, hit, and_self]

set_option maxRecDepth 100000 in
set_option maxHeartbeats 4000000 in
theorem round_z {E : Oracle} {K : Nat} (hmd : E.mode = md) {n : Bool} {y z u : PL} {m : List Nat} (hm : m.length = 8) {s : Int} (hs : E.pure 158 [.agg [.bool n, y, z, u]] = some (.one (.int .i64 s))) (h0 : eqF s (.ofNat 0) = true)
    {B0 : Blk} {T : List (Nat × DV)} {v : Nat} {o : List (List PL)} {G : List Blk} (h3 : getT T 3 = some (.one (.own 1 v 0 o.length))) (hit : getT T 10 = some (.one (.ptr 2 0 0 0))) :
    ∃ T' G', rmRound E K rmS 2 ⟨T, B0 :: ⟨false, v, 12, pc o, false, 75⟩ :: itB :: G⟩ (moD m ++ [.p (.bool n), .p y, .p z, .p u]) = some ⟨T', B0 :: ⟨false, v, 12, pc o, false, 75⟩ :: itB :: G'⟩ ∧
      getT T' 3 = some (.one (.own 1 v 0 o.length)) ∧ getT T' 10 = some (.one (.ptr 2 0 0 0)) := by
  have tk : (moD m ++ [DL.p (.bool n), .p y, .p z, .p u]).take 8 = moD m := by rw [List.take_append_of_le_length (by rw [moD_len]; omega), List.take_of_length_le (by rw [moD_len]; omega)]
  have dk : (moD m ++ [DL.p (.bool n), .p y, .p z, .p u]).drop 8 = [.p (.bool n), .p y, .p z, .p u] := by
    rw [List.drop_append_of_le_length (by rw [moD_len]; omega), List.drop_eq_nil_of_le (by rw [moD_len]; omega)]; rfl
  have tm : (moD m).take 8 = moD m := List.take_of_length_le (by rw [moD_len]; omega)
  have dm : (moD m).drop 8 = [] := List.drop_eq_nil_of_le (by rw [moD_len]; omega)
  apply ex2
  · unfold rmRound
    simp only [EVS, EVN, EVF, rmS, zTerm, tk, dk, reduceIte, Nat.reduceEqDiff, Nat.reduceLeDiff, Nat.reduceAdd, hit, hm, moD_len, hmd, MDS, hs, h0, itOk]
    rfl
  · simp only [EVS, reduceIte, Nat.reduceEqDiff, h3, hit, and_self]

/-- The library's sort, at all slices of one length. -/
theorem sortF_evt {B : Base} (hB : StdP B) {L : Nat} (hL : L < 60000) : Evt B fun E _ => ∀ (H : List Blk) (i v ty : Nat) (es : List (List PL)), es.length = L → H[i]? = some ⟨false, v, 12, pc es, false, ty⟩ → Terms es → noDup es = true →
    E.heap 165 [.one (.own i v 0 es.length), .one (.p (.fn 166 []))] H = some (.tup [], H.set i ⟨false, v, 12, pc (isort es), false, ty⟩) := by
  obtain ⟨lm, hlm, h1⟩ := bitsLen_ret hB.toStd (n := L) (by omega)
  obtain ⟨N, hN⟩ := h1.evt
  obtain ⟨M, hM⟩ := hB.toStd.evt
  refine ⟨max N M + 1, fun K n hK hn => ?_⟩
  obtain ⟨n, rfl⟩ : ∃ n', n = n' + 1 := ⟨n - 1, by omega⟩
  have e1 := hN K n (by omega) (by omega)
  have hmd := hM K n (by omega) (by omega)
  intro H i v ty es he hi ht hd
  subst he
  have e2 : (B.E K n).heap _ _ _ = _ := (B.E_le (K := 0) (n := 0) (Nat.zero_le K) (Nat.zero_le n)).heap _ _ _ _ (hB.pdq _ _ _ (pdqAns_eq hi ht hd hL hlm))
  have f1 : es.length % 18446744073709551616 = es.length := Nat.mod_eq_of_lt (by omega)
  show (match B.X 165 with
    | some xf => evHeapF (B.E K n) K xf [.one (.own i v 0 es.length), .one (.p (.fn 166 []))] H
    | none => (B.E K n).heap 165 [.one (.own i v 0 es.length), .one (.p (.fn 166 []))] H) = _
  rw [hB.toStd.tab 165 x165 rfl]
  simp only [EVS, EVH, EVN, reduceIte, Nat.reduceEqDiff, Nat.reduceLeDiff, Nat.reduceAdd, x165, hmd, MDS, e1, e2, f1]

/-- The signs of all coefficients. -/
def SignsOk (E : Oracle) (ts : List (List PL)) : Prop := ∀ t ∈ ts, ∀ n y z u m, t = .bool n :: y :: z :: u :: m → ∃ s, E.pure 158 [.agg [.bool n, y, z, u]] = some (.one (.int .i64 s)) ∧ eqF s (.ofNat 0) = !nz t
theorem signs_evt {B : Base} (hB : Std B) : ∀ {ch : List (List DL)} {ts : List (List PL)}, mapO entT ch = some ts → Evt B fun E _ => SignsOk E ts
  | [], ts, h => by cases h; exact Evt.of fun _ _ t ht => by cases ht
  | c :: ch, ts, h => by
    simp only [mapO] at h
    split at h
    · cases h
    · rename_i t ht
      split at h
      · cases h
      · rename_i ts' hts
        cases h
        obtain ⟨n, y, z, u, m, es, -, rfl, -, hs, hz⟩ := entT_spec ht
        obtain ⟨s, h1, h2⟩ := sign_any hB (n := n) (z := z) (u := u) hs
        refine ((signs_evt hB hts).and h1.evt).mono fun E K ⟨e1, e2⟩ t' ht' n' y' z' u' m' e => ?_
        rcases List.mem_cons.1 ht' with rfl | ht'
        · simp only [List.cons.injEq, PL.bool.injEq] at e
          obtain ⟨rfl, rfl, rfl, rfl, -⟩ := e
          exact ⟨s, e2, by rw [h2, hz]; cases es <;> rfl⟩
        · exact e1 t' ht' n' y' z' u' m' e

end Go.Proofs.YtidginchkjhobaaGreat

namespace Go.Proofs.YtidginchkjhobaaGreat
open Go.Ev Go.Num

theorem mapO_len {α β : Type} {f : α → Option β} : ∀ {l : List α} {r : List β}, mapO f l = some r → r.length = l.length
  | [], r, h => by cases h; rfl
  | x :: l, r, h => by
    simp only [mapO] at h
    split at h
    · cases h
    · split at h
      · cases h
      · rename_i hys
        cases h
        simp [mapO_len hys]
theorem mapO_append {α β : Type} {f : α → Option β} : ∀ {l m : List α} {r q : List β}, mapO f l = some r → mapO f m = some q → mapO f (l ++ m) = some (r ++ q)
  | [], m, r, q, h, k => by cases h; simpa using k
  | x :: l, m, r, q, h, k => by
    simp only [mapO] at h
    split at h
    · cases h
    · rename_i y hy
      split at h
      · cases h
      · rename_i ys hys
        cases h
        simp only [List.cons_append, mapO, hy, mapO_append hys k]
theorem mapO_perm {α β : Type} {f : α → Option β} {l m : List α} (hp : l.Perm m) : ∀ {r : List β}, mapO f l = some r → ∃ q, mapO f m = some q ∧ r.Perm q := by
  induction hp with
  | nil => intro r h; exact ⟨r, h, .refl _⟩
  | cons x _ ih =>
    intro r h
    simp only [mapO] at h
    split at h
    · cases h
    · rename_i y hy
      split at h
      · cases h
      · rename_i ys hys
        cases h
        obtain ⟨q, h1, h2⟩ := ih hys
        exact ⟨y :: q, by simp only [mapO, hy, h1], h2.cons y⟩
  | swap x y l =>
    intro r h
    simp only [mapO] at h
    split at h
    · cases h
    · rename_i a ha
      split at h
      · cases h
      · rename_i bs hbs
        cases h
        split at hbs
        · cases hbs
        · rename_i b hb
          split at hbs
          · cases hbs
          · rename_i cs hcs
            cases hbs
            exact ⟨b :: a :: cs, by simp only [mapO, ha, hb, hcs], .swap ..⟩
  | trans _ _ ih1 ih2 =>
    intro r h
    obtain ⟨q, h1, h2⟩ := ih1 h
    obtain ⟨q', h3, h4⟩ := ih2 h1
    exact ⟨q', h3, h2.trans h4⟩

theorem entT_term {c : List DL} {t : List PL} (h : entT c = some t) : isTerm t = true := by
  obtain ⟨n, y, z, u, m, es, -, rfl, hm, -, -⟩ := entT_spec h
  unfold isTerm; rw [monO_term hm]; rfl
theorem entT_terms : ∀ {l : List (List DL)} {ts : List (List PL)}, mapO entT l = some ts → Terms ts
  | [], ts, h => by cases h; exact fun _ h => by cases h
  | c :: l, ts, h => by
    simp only [mapO] at h
    split at h
    · cases h
    · rename_i y hy
      split at h
      · cases h
      · rename_i ys hys
        cases h
        intro x hx
        rcases List.mem_cons.1 hx with rfl | hx
        · exact entT_term hy
        · exact entT_terms hys x hx
theorem noDup_of {cs : List (List PL)} (h1 : Distinct cs) (h2 : cs.Nodup) : noDup cs = true := by
  induction cs with
  | nil => rfl
  | cons c cs ih =>
    obtain ⟨h3, h4⟩ := List.nodup_cons.1 h2
    simp only [noDup, Bool.and_eq_true, List.all_eq_true, Bool.not_eq_true']
    refine ⟨fun d hd => ?_, ih (fun x hx y hy => h1 x (List.mem_cons_of_mem _ hx) y (List.mem_cons_of_mem _ hy)) h4⟩
    cases he : eqLs Nat.beq (monM c) (monM d) with
    | false => rfl
    | true =>
      exfalso
      have : monM c = monM d := eqLs_eq (fun x y h => Nat.eq_of_beq_eq_true h) _ _ he
      rw [h1 c (List.mem_cons_self ..) d (List.mem_cons_of_mem _ hd) this] at h3
      exact h3 hd
theorem noDup_nodup : ∀ {cs : List (List PL)}, noDup cs = true → cs.Nodup
  | [], _ => List.nodup_nil
  | c :: cs, h => by
    simp only [noDup, Bool.and_eq_true, List.all_eq_true, Bool.not_eq_true'] at h
    refine List.nodup_cons.2 ⟨fun hc => ?_, noDup_nodup h.2⟩
    have := h.1 c hc
    rw [eqLs_self] at this; cases this
theorem noDup_sub {cs ds : List (List PL)} (h : noDup cs = true) (hs : ds.Sublist cs) : noDup ds = true :=
  noDup_of (fun x hx y hy => noDup_spec h x (hs.subset hx) y (hs.subset hy)) (hs.nodup (noDup_nodup h))
theorem noDup_perm {cs ds : List (List PL)} (h : noDup cs = true) (hp : ds.Perm cs) : noDup ds = true :=
  noDup_of (fun x hx y hy => noDup_spec h x (hp.mem_iff.1 hx) y (hp.mem_iff.1 hy)) (hp.nodup_iff.2 (noDup_nodup h))

set_option maxRecDepth 100000 in
set_option maxHeartbeats 4000000 in
theorem sorted_CH {P : Program} (hmix : P.follows .mixedOrders = true) {B : Base} (hB : StdP B) (hE : ∀ K n, OracleOk P (B.E K n)) (hf : RMFun P 132 rmS) (args : List DV) (H : List Blk) (d : DV) (H' : List Blk) (h : sortedAns args H = some (d, H')) :
    CH P 132 args H d H' ∧ Ent P 132 := by
  unfold sortedAns at h
  split at h
  · rename_i i
    split at h
    · rename_i b hb
      obtain ⟨hc, h⟩ := cond_or h
      simp only [Bool.and_eq_true] at hc
      obtain ⟨⟨⟨hm, hty⟩, hsz⟩, hl⟩ := hc
      have hsz := Nat.eq_of_beq_eq_true hsz
      have hl : b.ch.length < 60000 := by
        have := hl; rw [blt_dec] at this; simpa using this
      split at h
      · rename_i ts hts
        obtain ⟨hnd, h⟩ := cond_some h
        simp only [Prod.mk.injEq] at h
        obtain ⟨rfl, rfl⟩ := h
        have hterm := entT_terms hts
        have htl := mapO_len hts
        -- the facts
        have hF := (((signs_evt hB.toStd hts).and hB.toStd.evt).and (sortF_evt hB (L := (ts.filter nz).length) (Nat.lt_of_le_of_lt (List.length_filter_le ..) (by omega))))
        obtain ⟨N, hN⟩ := hF
        obtain ⟨⟨hs, hmd⟩, hso⟩ := hN N N (Nat.le_refl _) (Nat.le_refl _)
        generalize hEE : B.E N N = E at hs hmd hso
        have hEok : OracleOk P E := hEE ▸ hE N N
        have key : CH P 132 [.one (.mp 0)] [frzB b] (inj (.one (.lst (isort (ts.filter nz))))) ([frzB b].map frzB) ∧ Ent P 132 := by
          have hb1 : (frzB b).ch = b.ch := rfl
          have hmp : (frzB b).mp = true := hm
          have hfz : (frzB b).fz = true := rfl
          have hty' : Nat.beq (frzB b).ty 1 = true := hty
          have hsz' : (frzB b).sz = 8 := hsz
          have hff : frzB (frzB b) = frzB b := rfl
          generalize hB0 : frzB b = B0 at hb1 hmp hfz hty' hsz' hff
          let Inv : List (List DL) → St → Prop := fun l s => ∃ T v G dn tl td, s = ⟨T, B0 :: ⟨false, v, 12, pc (td.filter nz), false, 75⟩ :: itB :: G⟩ ∧ getT T 3 = some (.one (.own 1 v 0 (td.filter nz).length)) ∧ getT T 10 = some (.one (.ptr 2 0 0 0)) ∧ mapO entT dn = some td ∧ mapO entT l = some tl ∧ (td ++ tl).Perm ts
          have hstep : ∀ l s, Inv l s → ∀ p ∈ picks l, ∃ s', rmRound E N rmS 2 s p.1 = some s' ∧ Inv p.2 s' := by
            rintro l s ⟨T, v, G, dn, tl, td, rfl, h3, h10, hdn, htl', hperm⟩ p hp
            have hpp := picks_perm l p hp
            obtain ⟨q, hq, hq2⟩ := mapO_perm hpp.symm htl'
            obtain ⟨c, l'⟩ := p
            simp only [mapO] at hq
            split at hq
            · cases hq
            · rename_i t ht
              split at hq
              · cases hq
              · rename_i tl2 htl2
                cases hq
                obtain ⟨n, y, z, u, m, es, rfl, rfl, hmo, hsl, hz⟩ := entT_spec ht
                have hmem : (PL.bool n :: y :: z :: u :: mo m) ∈ ts := hperm.mem_iff.1 (List.mem_append.2 (.inr (hq2.mem_iff.2 (List.mem_cons_self ..))))
                obtain ⟨s0, e1, e2⟩ := hs _ hmem n y z u (mo m) rfl
                have hlen : (td.filter nz).length < 100000 := by
                  have h1 : (td ++ tl).length = ts.length := hperm.length_eq
                  have h2 : (td.filter nz).length ≤ td.length := List.length_filter_le ..
                  simp at h1; omega
                have hperm2 : (td ++ [PL.bool n :: y :: z :: u :: mo m] ++ tl2).Perm ts := by
                  refine List.Perm.trans ?_ hperm
                  rw [List.append_assoc, List.singleton_append]
                  exact (hq2.symm).append_left td
                have hdn2 : mapO entT (dn ++ [moD m ++ [.p (.bool n), .p y, .p z, .p u]]) = some (td ++ [PL.bool n :: y :: z :: u :: mo m]) := mapO_append hdn (by simp only [mapO, ht])
                cases hzz : nz (PL.bool n :: y :: z :: u :: mo m) with
                | true =>
                  rw [hzz] at e2
                  obtain ⟨T', G', g1, g2, g3⟩ := round_nz (K := N) hmd hmo.1 e1 e2 (B0 := B0) (G := G) hlen h3 h10
                  refine ⟨_, g1, T', v + 1, G', _, tl2, _, ?_, ?_, g3, hdn2, htl2, hperm2⟩
                  · rw [List.filter_append]; simp [hzz]
                  · rw [g2, List.filter_append]; simp [hzz]
                | false =>
                  rw [hzz] at e2
                  obtain ⟨T', G', g1, g2, g3⟩ := round_z (K := N) hmd hmo.1 e1 e2 (B0 := B0) (G := G) h3 h10
                  refine ⟨_, g1, T', v, G', _, tl2, _, ?_, ?_, g3, hdn2, htl2, hperm2⟩
                  · rw [List.filter_append]; simp [hzz]
                  · rw [g2, List.filter_append]; simp [hzz]
          have hfr : [B0].map frzB = [B0] := by simp [hff]
          have hlb : 128 * b.ch.length ≤ lim := by unfold lim; omega
          have hlb2 : b.ch.length ≤ 9223372036854775807 := by omega
          have hq : opLenMap (HFof [B0]) [.one (.mp 0)] = some ⟨.one (.p (.int .i64 (.ofNat b.ch.length))), [], [], [0]⟩ := by
            have ht1 := Nat.eq_of_beq_eq_true hty'
            have hh : HFof [B0] 0 = some B0 := rfl
            simp only [opLenMap, hh, hmp, ht1, hb1]
            rfl
          have h0 : evCode E N 0 rmS.pre0 ⟨argsT [.one (.mp 0)] 0, [B0].map frzB⟩ = some (.normal, ⟨[(2, .one (.p .nilS)), (0, .one (.mp 0))], [B0]⟩) := by
            rw [hfr]
            simp only [EVS, rmS]
          have h1 : evCode E N 0 rmS.pre1 ⟨[(2, .one (.p .nilS)), (0, .one (.mp 0))], [B0]⟩ = some (.normal, ⟨[(3, .one (.own 1 0 0 0)), (8, .one (.own 1 0 0 0)), (7, .one (.p (.int .i64 (.ofNat b.ch.length)))), (6, .one (.mp 0)), (2, .one (.p .nilS)), (0, .one (.mp 0))], [B0, ⟨false, 0, 12, [], false, 75⟩]⟩) := by
            simp only [EVS, EVN, rmS, zTerm, reduceIte, Nat.reduceEqDiff, Nat.reduceAdd, Nat.zero_le, hq, hlb, hlb2]
          have hI0 : Inv b.ch ⟨(10, .one (.ptr 2 0 0 0)) :: (9, .one (.mp 0)) :: [(3, .one (.own 1 0 0 0)), (8, .one (.own 1 0 0 0)), (7, .one (.p (.int .i64 (.ofNat b.ch.length)))), (6, .one (.mp 0)), (2, .one (.p .nilS)), (0, .one (.mp 0))], [B0, ⟨false, 0, 12, [], false, 75⟩] ++ [⟨true, 0, 0, [], true, 2⟩]⟩ :=
            ⟨_, 0, [], [], ts, [], rfl, rfl, rfl, rfl, hts, .refl _⟩
          obtain ⟨ss, hfin, hall⟩ := finals_inv Inv hstep b.ch.length b.ch _ rfl hI0
          refine rmapF_CH2 E hEok (draw_ok hEok hmix) N hf [.one (.mp 0)] [B0] (.one (.lst (isort (ts.filter nz)))) (ss := ss) (id := 0) (b := B0) (by simp [rmS]) h0 h1 rfl rfl hmp hfz hty' hsz' ?_ fun s hsm => ?_
          · rw [hb1]; exact hfin
          · obtain ⟨T, v, G, dn, tl, td, rfl, h3, h10, hdn, htl', hperm⟩ := hall s hsm
            cases htl'
            rw [List.append_nil] at hperm
            have hp2 : (td.filter nz).Perm (ts.filter nz) := hperm.filter nz
            have hnd2 : noDup (ts.filter nz) = true := noDup_sub hnd List.filter_sublist
            have hte2 : Terms (ts.filter nz) := fun c hc => hterm c ((List.mem_filter.1 hc).1)
            have hu := isort_unique hte2 (noDup_spec hnd2) hp2
            generalize td.filter nz = o at hp2 h3 hu
            have hsrt := hso (B0 :: ⟨false, v, 12, pc o, false, 75⟩ :: itB :: G) 1 v 75 o hp2.length_eq rfl (fun c hc => hte2 c (hp2.mem_iff.1 hc)) (noDup_perm hnd2 hp2)
            rw [hu] at hsrt
            have hlo : o.length = (isort (ts.filter nz)).length := by rw [hp2.length_eq, (isort_perm _).length_eq]
            have hfz2 := fun h => frz_pc 5 h (isort (ts.filter nz))
            have htk := pc_take (isort (ts.filter nz)) (Nat.le_refl _)
            rw [hlo] at h3 hsrt
            unfold rmPost
            simp only [EVS, EVH, EVN, EVF, rmS, reduceIte, Nat.reduceEqDiff, h3, hmd, MDS, hsrt, pc_len, Nat.le_refl, htk, hfz2]
        refine ⟨?_, key.2⟩
        refine CH_map1 key.1 hb hm ?_
        have hall : ∀ (l : List (List DL)) (ts : List (List PL)), mapO entT l = some ts → ∀ c ∈ l, ∀ d ∈ c, ∃ l, d = DL.p l := by
          intro l
          induction l with
          | nil => intro ts _ c hc; cases hc
          | cons c l ih =>
            intro ts h x hx d hd
            simp only [mapO] at h
            split at h
            · cases h
            · rename_i y hy
              split at h
              · cases h
              · rename_i ys hys
                rcases List.mem_cons.1 hx with rfl | hx
                · obtain ⟨n, y, z, u, m, es, rfl, -, -, -, -⟩ := entT_spec hy
                  rcases List.mem_append.1 hd with hd | hd
                  · simp only [moD, List.mem_map] at hd
                    obtain ⟨e, -, rfl⟩ := hd
                    exact ⟨_, rfl⟩
                  · simp only [List.mem_cons, List.not_mem_nil, or_false] at hd
                    rcases hd with rfl | rfl | rfl | rfl <;> exact ⟨_, rfl⟩
                · exact ih ys hys x hx d hd
        exact hall _ _ hts
      · cases h
    · cases h
  · cases h

end Go.Proofs.YtidginchkjhobaaGreat
