/- The interpreter of this program: the base oracle and its soundness. -/
import Derived.Test.YtidginchkjhobaaGreatTabOk
import Derived.Test.YtidginchkjhobaaGreatSort
import Derived.Test.YtidginchkjhobaaGreatMap
import Derived.Test.YtidginchkjhobaaGreatLay
import Derived.Test.YtidginchkjhobaaGreatEvSort
namespace Go.Proofs.YtidginchkjhobaaGreat
open Go.Ev

theorem mix : Tryz.prog.follows .mixedOrders = true := by kernel_rfl

/-! ### the library's sort -/

theorem E00_le (K : Nat) : OLe (E00 md) (lift X K (E00 md)) := ⟨rfl, (fun _ _ _ h => by cases h), (fun _ _ _ _ h => by cases h), rfl⟩
def Bn : Base := ⟨E00 md, X, E00_le⟩
theorem Bn_std : Std Bn := ⟨rfl, fun f xf h => by
  unfold XV without at h
  cases hb : inN f [186] with
  | true => rw [hb, cond_true] at h; cases h
  | false => rw [hb, cond_false] at h; exact h⟩
theorem Bn_ok (K n : Nat) : OracleOk Tryz.prog (Bn.E K n) := ev_ok mix X X_ok K _ (E00_ok md) n

theorem cmpS_CC {x y : List PL} (hx : isTerm x = true) (hy : isTerm y = true) : CC Tryz.prog 166 [.agg x, .agg y] (.one (.int .i64 (cmpS x y))) := by
  obtain ⟨a, b, c, d, e1, hm⟩ := isTerm_spec hx
  obtain ⟨a', b', c', d', e2, hn⟩ := isTerm_spec hy
  obtain ⟨K, n, h⟩ := sortedCmp_ret Bn_std (x := a) (y := b) (z := c) (u := d) (x2 := a') (y2 := b') (z2 := c') (u2 := d') hm.1 hn.1
  rw [← e1, ← e2] at h
  exact ((Bn_ok K n).pure _ _ _ h).1

def Ei : Oracle := ev (E00 md) X 1000 16
theorem Ei_ok : OracleOk Tryz.prog Ei := ev_ok mix X X_ok 1000 _ (E00_ok md) 16

def E0s : Oracle := ⟨md, fun _ _ => none,
  fun f args H => bif Nat.beq f 186 then (match pdqAns args H with | some r => some r | none => Ei.heap f args H) else none,
  fun _ _ => none⟩

theorem pdqAns_ok {args : List DV} {H : List Blk} {d : DV} {H' : List Blk} (h : pdqAns args H = some (d, H')) : CH Tryz.prog 186 args H d H' := by
  unfold pdqAns at h
  split at h
  · rename_i i ver n n2 lm g
    obtain ⟨hc, hk⟩ := cond_or h
    clear h
    rw [Bool.and_eq_true] at hc
    obtain ⟨hg, hlm⟩ := hc
    obtain rfl := Nat.eq_of_beq_eq_true hg
    clear hg
    split at hk
    · rename_i b hb
      split at hk
      · rename_i es hes
        obtain ⟨hc, h⟩ := cond_or hk
        clear hk
        simp only [Bool.and_eq_true, Bool.not_eq_true'] at hc
        obtain ⟨⟨⟨⟨⟨⟨⟨⟨c1, c2⟩, c3⟩, c4⟩, c5⟩, c6⟩, c7⟩, c8⟩, c9⟩ := hc
        obtain rfl := Nat.eq_of_beq_eq_true c3
        obtain rfl := Nat.eq_of_beq_eq_true c5
        obtain rfl := Nat.eq_of_beq_eq_true c6
        simp only [Option.some.injEq, Prod.mk.injEq] at h
        obtain ⟨rfl, rfl⟩ := h
        have ht : Terms es := List.all_eq_true.1 c8
        have hlm' : lm < 4611686018427387904 := by simpa using hlm
        have hn : es.length < 1000000 := by simpa using c7
        exact pdq_CH sortT (k := 12) Tryz.isAgg75 Tryz.sizeOf75 rfl rfl (ent_of Tryz.func166 (by kernel_rfl) rfl) [] cmpS H i b es (isort es) lm hb c1 c2 (Nat.eq_of_beq_eq_true c4) (unPc_inv hes) hlm' (by omega)
          (fun x hx y hy => cmpS_CC (ht x hx) (ht y hy)) (fun x hx => cmpS_irr) (fun x hx y hy z hz => cmpS_tr (ht x hx) (ht y hy) (ht z hz)) (fun x hx y hy z hz => cmpS_ntr (ht x hx) (ht y hy) (ht z hz))
          (fun x hx y hy h1 h2 => noDup_spec c9 x hx y hy (cmpS_tot (ht x hx) (ht y hy) h1 h2)) (isort_perm es) (isort_sorted ht)
      · cases hk
    · cases hk
  · cases h

theorem pdq_ent : Ent Tryz.prog 186 := ent_of Tryz.func186 (by kernel_rfl) rfl

theorem pdq_ok {args : List DV} {H : List Blk} {d : DV} {H' : List Blk} (h : (match pdqAns args H with | some r => some r | none => Ei.heap 186 args H) = some (d, H')) : CH Tryz.prog 186 args H d H' ∧ Ent Tryz.prog 186 := by
  split at h
  · rename_i r hr
    rw [h] at hr
    exact ⟨pdqAns_ok hr, pdq_ent⟩
  · exact Ei_ok.heap _ _ _ _ _ h

theorem E0s_ok : OracleOk Tryz.prog E0s := by
  refine ⟨(fun _ _ _ h => by cases h), fun f args H d H' h => ?_, (fun _ _ _ h => by cases h)⟩
  simp only [E0s] at h
  obtain ⟨hf, h⟩ := cond_or h
  obtain rfl := Nat.eq_of_beq_eq_true hf
  exact pdq_ok h

theorem XV_ok : ∀ f xf, XV f = some xf → FunOk Tryz.prog f xf := without_ok _ X_ok

theorem E0s_le (K : Nat) : OLe E0s (lift XV K E0s) := by
  refine ⟨rfl, (fun _ _ _ h => by cases h), fun f a H r h => ?_, rfl⟩
  have h' := h
  simp only [E0s] at h
  obtain ⟨hf, h⟩ := cond_or h
  obtain rfl := Nat.eq_of_beq_eq_true hf
  exact h'
def Bs : Base := ⟨E0s, XV, E0s_le⟩
theorem Bs_std : StdP Bs := ⟨⟨rfl, fun _ _ h => h⟩, fun args H r h => by
  show (match pdqAns args H with | some r => some r | none => Ei.heap 186 args H) = some r
  rw [h]⟩
theorem Bs_ok (K n : Nat) : OracleOk Tryz.prog (Bs.E K n) := ev_ok mix XV XV_ok K _ E0s_ok n

/-! ### the sorted terms of a map, and the pairs -/

def Es : Oracle := ev E0s XV 1000 16
theorem Es_ok : OracleOk Tryz.prog Es := ev_ok mix XV XV_ok 1000 _ E0s_ok 16

def itCap : List PL → Option (List (List PV))
  | [.ref [.int .i64 (.ofNat n)]] => bif Nat.blt n 1000000 then some (prs n) else none
  | _ => none

def E0 : Oracle := ⟨md, fun _ _ => none,
  fun f args H => bif Nat.beq f 132 then (match sortedAns args H with | some r => some r | none => evRmapF Es 1000 rmS args H)
    else bif Nat.beq f 186 then (match pdqAns args H with | some r => some r | none => Ei.heap f args H) else none,
  fun f caps => bif Nat.beq f 141 then itCap caps else none⟩

theorem E0_ok : OracleOk Tryz.prog E0 := by
  refine ⟨(fun _ _ _ h => by cases h), fun f args H d H' h => ?_, fun f caps xss h => ?_⟩
  · simp only [E0] at h
    cases hf : Nat.beq f 132 with
    | true =>
      obtain rfl := Nat.eq_of_beq_eq_true hf
      rw [hf, cond_true] at h
      split at h
      · rename_i r hr
        rw [h] at hr
        exact sorted_CH mix Bs_std Bs_ok rmS_ok args H d H' hr
      · exact rmapF_CH Es Es_ok (draw_ok Es_ok mix) 1000 rmS_ok args H d H' h
    | false =>
      rw [hf, cond_false] at h
      obtain ⟨hf, h⟩ := cond_or h
      obtain rfl := Nat.eq_of_beq_eq_true hf
      exact pdq_ok h
  · simp only [E0] at h
    obtain ⟨hf, h⟩ := cond_or h
    obtain rfl := Nat.eq_of_beq_eq_true hf
    clear hf
    unfold itCap at h
    split at h
    · rename_i n _
      obtain ⟨hn, rfl⟩ := cond_some h
      refine ⟨pairs_iter n (by simpa using hn), ent_of Tryz.func141 (by kernel_rfl) rfl⟩
    · cases h

/-- The interpreter, at depth n. -/
def EV (n : Nat) : Oracle := ev E0 XV 1000 n
theorem EV_ok (n : Nat) : OracleOk Tryz.prog (EV n) := ev_ok mix XV XV_ok 1000 _ E0_ok n

theorem E0_le (K : Nat) : OLe E0 (lift XV K E0) := by
  refine ⟨rfl, (fun _ _ _ h => by cases h), fun f a H r h => ?_, rfl⟩
  have h' := h
  simp only [E0] at h
  cases hf : Nat.beq f 132 with
  | true =>
    obtain rfl := Nat.eq_of_beq_eq_true hf
    exact h'
  | false =>
    rw [hf, cond_false] at h
    obtain ⟨hf, h⟩ := cond_or h
    obtain rfl := Nat.eq_of_beq_eq_true hf
    exact h'

def BB : Base := ⟨E0, XV, E0_le⟩
theorem BB_std : StdS BB := ⟨⟨rfl, fun _ _ h => h⟩, fun args H r h => by
  show (match sortedAns args H with | some r => some r | none => evRmapF Es 1000 rmS args H) = some r
  rw [h]⟩
theorem BB_ok (K n : Nat) : OracleOk Tryz.prog (BB.E K n) := ev_ok mix XV XV_ok K _ E0_ok n

end Go.Proofs.YtidginchkjhobaaGreat
