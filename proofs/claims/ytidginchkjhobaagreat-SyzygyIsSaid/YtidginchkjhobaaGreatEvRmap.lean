/- A range over a map: every order of the entries is looked at. -/
import Derived.Test.YtidginchkjhobaaGreatEvTop
import Derived.Maps.RangeRun
namespace Go.Ev
open Go.RowKit

/-! ### evaluation -/

/-- The abstract form of a function that ranges over a map: pieces of its code, and slots. -/
structure RM where
  m : Nat
  m2 : Nat
  it : Nat
  nx : Nat
  ok : Nat
  en : Nat
  b : Nat
  b2 : Nat
  klen : Nat
  tail : List XOper
  rb : XCode
  pre0 : XCode
  pre1 : XCode
  post : XCode
  ntmps : Nat
  results : List (Nat × Option (Bool × Nat))

def picks {α : Type} : List α → List (α × List α)
  | [] => []
  | x :: xs => (x, xs) :: (picks xs).map fun p => (p.1, x :: p.2)

/-- The slot of the iterator and its block are as they were. -/
def itOk (it iid : Nat) (s : St) : Bool :=
  (match getT s.T it with
   | some (.one (.ptr i 0 0 0)) => Nat.beq i iid
   | _ => false) &&
  match s.H[iid]? with
   | some b => Nat.beq b.ver 0 && Nat.beq b.sz 0
   | none => false

/-- One round, at the entry with the cells c. -/
def rmRound (E : Oracle) (K : Nat) (rm : RM) (iid : Nat) (s : St) (c : List DL) : Option St :=
  match evOps E 0 rm.tail ⟨(rm.en, .tup [.agg (c.take rm.klen), .agg (c.drop rm.klen)]) :: (rm.ok, .one (.p (.bool true))) :: (rm.nx, .tup [.one (.p (.bool true)), .agg (c.take rm.klen), .agg (c.drop rm.klen)]) :: s.T, s.H⟩ with
  | some s1 =>
    match evCode E K 0 rm.rb s1 with
    | some (.normal, s2) => bif itOk rm.it iid s2 then some s2 else none
    | _ => none
  | none => none

/-- All runs, over every order of the entries that are left. -/
def finals (E : Oracle) (K : Nat) (rm : RM) (iid : Nat) : Nat → List (List DL) → St → Option (List St)
  | _, [], s => some [s]
  | 0, _ :: _, _ => none
  | k + 1, c :: cs, s =>
    match mapO (fun p => match rmRound E K rm iid s p.1 with
      | some s' => finals E K rm iid k p.2 s'
      | none => none) (picks (c :: cs)) with
    | some ls => some ls.flatten
    | none => none

theorem picks_mem {α : Type} : ∀ (l : List α) (i : Nat) (x : α), l[i]? = some x → (x, l.eraseIdx i) ∈ picks l
  | [], i, x, h => by simp at h
  | y :: l, 0, x, h => by simp at h; subst h; simp [picks]
  | y :: l, i + 1, x, h => by
    simp only [picks, List.mem_cons, List.mem_map]
    exact .inr ⟨(x, l.eraseIdx i), picks_mem l i x (by simpa using h), by simp⟩

section
variable {P : Program} {O : BS}

theorem list_value {F : Fence} (hF : FenceOk F) {n : Nat} {w w' : World} {ops : Array Oper} {Q : Exit → Act → World → Prop} {a : Act} {o : Oper} {rest : List Oper} (hg : o.guard = none) (hnd : ∀ c, o.op ≠ .defer c) (v : Value) (hrun : (execOp a.eval o).run P w = .ok (.value v) w')
    (h : wpListIn F n P ops Q rest (a.put o.dst v) w') : wpListIn F n P ops Q (o :: rest) a w := by
  refine wpListIn_plain hg fun K hK => oper_in hF hnd ?_
  unfold Oper.wp; rw [hrun]; exact hK _ _ h

/-- The pieces of the code of a range over a map. -/
structure RMOps (P : Program) (nt : Nat) (rm : RM) (o2a o2b o3a o3b o4 : Oper) (tl : List Oper) (rb : Code) : Prop where
  a2 : o2a.dst = some rm.m2 ∧ o2a.op = .move (.tmp rm.m) ∧ o2a.guard = none
  b2 : ∃ mt, o2b.dst = some rm.it ∧ o2b.op = .range mt (.tmp rm.m2) ∧ o2b.guard = none ∧ ∃ kt e, P.underlying mt = some (.map kt e)
  a3 : o3a.dst = some rm.nx ∧ o3a.op = .next (.tmp rm.it) false ∧ o3a.guard = none
  b3 : o3b.dst = some rm.ok ∧ o3b.op = .extract (.tmp rm.nx) 0 ∧ o3b.guard = none
  a4 : o4.dst = some rm.en ∧ o4.op = .entry (.tmp rm.it) ∧ o4.guard = none
  tail : mapO (compOper P nt (o4 :: tl)) tl = some rm.tail
  body : compCode P nt rb = some rm.rb.erase
  lt : rm.m2 < nt ∧ rm.it < nt ∧ rm.nx < nt ∧ rm.ok < nt ∧ rm.en < nt
  ne : rm.nx ≠ rm.it ∧ rm.ok ≠ rm.it ∧ rm.m2 ≠ rm.it

/-- The loop's code. -/
def rmLoop (rm : RM) (i3 i4 : Nat) (o3a o3b o4 : Oper) (tl : List Oper) (rb : Code) : Code :=
  (Code.region i3 #[o3a, o3b] false).seq ((Code.cond (.tmp rm.ok) .skip (.exit rm.b)).seq (Code.block rm.b2 ((Code.region i4 (o4 :: tl).toArray false).seq rb)))

/-- What is left of the entries. -/
def leftP (ps : List (MapEntry × List DL)) (g : Nat → Bool) : List (MapEntry × List DL) := ps.filter fun p => !g p.1.born

theorem leftP_push (g g' : Nat → Bool) : ∀ (ps : List (MapEntry × List DL)) (e : MapEntry) (c : List DL), (∀ y, g' y = (g y || y == e.born)) → ps.Pairwise (fun a b => a.1.born ≠ b.1.born) → (e, c) ∈ ps → g e.born = false →
    ∃ i, (leftP ps g)[i]? = some (e, c) ∧ leftP ps g' = (leftP ps g).eraseIdx i := by
  intro ps
  induction ps with
  | nil => intro e c _ _ h; simp at h
  | cons p ps ih =>
    intro e c push hp hm hs
    obtain ⟨hp1, hp2⟩ := List.pairwise_cons.1 hp
    rcases List.mem_cons.1 hm with rfl | hm
    · refine ⟨0, by simp [leftP, hs], ?_⟩
      have h1 : leftP ((e, c) :: ps) g = (e, c) :: leftP ps g := by simp [leftP, hs]
      have h2 : leftP ((e, c) :: ps) g' = leftP ps g' := by
        simp only [leftP]
        rw [List.filter_cons_of_neg]
        simp [push]
      rw [h1, h2, List.eraseIdx_cons_zero]
      unfold leftP
      refine List.filter_congr fun q hq => ?_
      have := hp1 q hq
      rw [push]
      have : (q.1.born == e.born) = false := by simpa using fun h => this h.symm
      rw [this, Bool.or_false]
    · obtain ⟨i, h1, h2⟩ := ih e c push hp2 hm hs
      have hne : p.1.born ≠ e.born := hp1 (e, c) hm
      have hpe : (p.1.born == e.born) = false := by simpa using hne
      cases hq : g p.1.born with
      | true =>
        refine ⟨i, ?_, ?_⟩
        · simp only [leftP] at h1 ⊢
          rw [List.filter_cons_of_neg (by simp [hq])]; exact h1
        · simp only [leftP] at h2 ⊢
          rw [List.filter_cons_of_neg (by rw [push, hq]; simp), List.filter_cons_of_neg (by simp [hq])]; exact h2
      | false =>
        refine ⟨i + 1, ?_, ?_⟩
        · simp only [leftP] at h1 ⊢
          rw [List.filter_cons_of_pos (by simp [hq])]; simpa using h1
        · simp only [leftP] at h2 ⊢
          rw [List.filter_cons_of_pos (by rw [push, hq, hpe]; simp), List.filter_cons_of_pos (by simp [hq]), List.eraseIdx_cons_succ, h2]

theorem contains_push' (seen : Array Nat) (x y : Nat) : (seen.push x).contains y = (seen.contains y || y == x) := by
  rw [Array.contains_push]

/-- The loop's state. -/
structure RMSt (nt lo : Nat) (rm : RM) (iid : Nat) (O : BS) (w0 : World) (μ0' : Nat → Nat) (hh : HF) (es : Array MapEntry) (clk bm r : Nat) (blk : Blk) (seen : Array Nat) (s : St) (W : World) (μ : Nat → Nat) (a : Act) : Prop where
  inv : HInv W O μ (HFof s.H)
  slots : Slots lo nt O W μ (HFof s.H) a s.T
  mono : Mono O w0 μ0' hh W μ (HFof s.H)
  map : W.heap[bm]? = some (.map es clk)
  iter : W.heap[r]? = some (.mapIter (some bm) clk seen clk)
  it : itOk rm.it iid s = true
  mu : μ iid = r
  nlr : ¬ Live O μ (HFof s.H) r
  nlb : ¬ Live O μ (HFof s.H) bm
  low : w0.heap.size ≤ r
  ent : All2 (EntOk W O μ (HFof s.H) blk) es.toList blk.ch

theorem itOk_spec {it iid : Nat} {s : St} (h : itOk it iid s = true) : getT s.T it = some (.one (.ptr iid 0 0 0)) ∧ ∃ b, HFof s.H iid = some b ∧ b.ver = 0 ∧ b.sz = 0 := by
  unfold itOk at h
  rw [Bool.and_eq_true] at h
  obtain ⟨h1, h2⟩ := h
  split at h1
  · rename_i i hg
    have := Nat.eq_of_beq_eq_true h1; subst this
    refine ⟨hg, ?_⟩
    split at h2
    · rename_i b hb
      rw [Bool.and_eq_true] at h2
      exact ⟨b, hb, Nat.eq_of_beq_eq_true h2.1, Nat.eq_of_beq_eq_true h2.2⟩
    · simp at h2
  · simp at h1

theorem EntOk.mono {w w' : World} {μ μ' : Nat → Nat} {h h' : HF} {b : Blk} {e : MapEntry} {c : List DL} (m : Mono O w μ h w' μ' h') (x : EntOk w O μ h b e c) : EntOk w' O μ' h' b e c := by
  obtain ⟨kv, xv, h1, h2, h3, h4⟩ := x
  exact ⟨kv, xv, h1, h2, h3, h4.imp fun _ _ => RepD.mono m⟩

theorem EntOk.same {w w' : World} {μ : Nat → Nat} {h : HF} {b : Blk} {e : MapEntry} {c : List DL} (m : SameData w w') (x : EntOk w O μ h b e c) : EntOk w' O μ h b e c := by
  obtain ⟨kv, xv, h1, h2, h3, h4⟩ := x
  exact ⟨kv, xv, h1, h2, h3, h4.imp fun _ _ => RepD.same m⟩

theorem dull_iter (m : Option Nat) (a : Nat) (b : Array Nat) (c : Nat) : Dull (.mapIter m a b c) := ⟨(fun _ _ _ h => by cases h), (fun _ _ h => by cases h)⟩

theorem leftP_fst (g : Nat → Bool) : ∀ (l : List MapEntry) (ch : List (List DL)), l.length = ch.length → (leftP (l.zip ch) g).map (·.1) = l.filter fun e => !g e.born
  | [], [], _ => rfl
  | [], _ :: _, h => by simp at h
  | _ :: _, [], h => by simp at h
  | e :: l, c :: ch, h => by
    have ih := leftP_fst g l ch (by simpa using h)
    simp only [leftP, List.zip_cons_cons] at ih ⊢
    cases hg : g e.born with
    | true => rw [List.filter_cons_of_neg (by simp [hg]), List.filter_cons_of_neg (by simp [hg])]; exact ih
    | false => rw [List.filter_cons_of_pos (by simp [hg]), List.filter_cons_of_pos (by simp [hg])]; simp [ih]

theorem map_eraseIdx' {α β : Type} (f : α → β) : ∀ (l : List α) (i : Nat), (l.eraseIdx i).map f = (l.map f).eraseIdx i
  | [], _ => by simp
  | _ :: _, 0 => by simp
  | x :: l, i + 1 => by simp [map_eraseIdx' f l i]

theorem pairwise_zip {R : MapEntry → MapEntry → Prop} : ∀ (l : List MapEntry) (ch : List (List DL)), l.Pairwise R → (l.zip ch).Pairwise fun a b => R a.1 b.1
  | [], _, _ => by simp
  | _ :: _, [], _ => by simp
  | e :: l, c :: ch, h => by
    obtain ⟨h1, h2⟩ := List.pairwise_cons.1 h
    rw [List.zip_cons_cons]
    exact List.pairwise_cons.2 ⟨fun p hp => h1 p.1 (List.of_mem_zip hp).1, pairwise_zip l ch h2⟩

theorem rep_tup3 {w : World} {μ : Nat → Nat} {h : HF} {v1 v2 v3 : Value} {d1 d2 d3 : DV} (h1 : RepV1 w O μ h v1 d1) (h2 : RepV1 w O μ h v2 d2) (h3 : RepV1 w O μ h v3 d3) : RepV w O μ h (.tuple #[v1, v2, v3]) (.tup [d1, d2, d3]) := ⟨[v1, v2, v3], rfl, .cons h1 (.cons h2 (.cons h3 .nil))⟩

theorem put_eval (a : Act) (t : Nat) (v : Value) (ht : t < a.tmps.size) : (a.put (some t) v).eval (.tmp t) = v := put_same a t v ht

/-- One round of the loop. -/
theorem rm_round (E : Oracle) (hE : OracleOk P E) (hD : DrawOk P E) (K : Nat) {nt lo : Nat} (rm : RM) {o2a o2b o3a o3b o4 : Oper} {tl : List Oper} {rb : Code} (ho : RMOps P nt rm o2a o2b o3a o3b o4 tl rb) (i3 i4 iid : Nat)
    {w0 : World} {μ0' : Nat → Nat} {hh : HF} (hI0 : HInv w0 O μ0' hh) (es : Array MapEntry) (clk bm r : Nat) (blk : Blk) (hsz : blk.sz = rm.klen) (hty : Nat.beq blk.ty 1 = true) (hborn : Born es.toList clk) (Q : Exit → Act → World → Prop) (N : Act → World → Prop)
    (seen : Array Nat) (s : St) (W : World) (μ : Nat → Nat) (a : Act) (st : RMSt nt lo rm iid O w0 μ0' hh es clk bm r blk seen s W μ a)
    (hover : leftP (es.toList.zip blk.ch) seen.contains = [] → ∀ a, Slots lo nt O W μ (HFof s.H) a ((rm.ok, .one (.p (.bool false))) :: (rm.nx, .tup [.one (.p (.bool false))]) :: s.T) → Q (.exit rm.b) a W)
    (hstep : ∀ e c, (e, c) ∈ es.toList.zip blk.ch → seen.contains e.born = false → ∃ s', rmRound E K rm iid s c = some s' ∧ ∀ W' μ' a', RMSt nt lo rm iid O w0 μ0' hh es clk bm r blk (seen.push e.born) s' W' μ' a' → N a' W') :
    (rmLoop rm i3 i4 o3a o3b o4 tl rb).wpIn Fence.wide 0 P (Exit.then N Q) a W := by
  have hF : FenceOk Fence.wide := .inl rfl
  obtain ⟨hit, ib, hib, hiv, his⟩ := itOk_spec st.it
  have hasz := st.slots.sz
  have hva : a.eval (.tmp rm.it) = .pointer (some ⟨r, 0, none⟩) := by
    obtain ⟨b, g, o, e, hb, _, hs⟩ := (st.slots.slot rm.it _ hit).inv_ptr
    rw [hib] at hb; cases hb
    obtain ⟨h1, h2⟩ := hs hiv.symm
    have : a.eval (.tmp rm.it) = a.tmps.getD rm.it undef := rfl
    rw [this, e, h1, h2, st.mu, his]
  obtain ⟨hm2, hlit, hnx, hok, hen⟩ := ho.lt
  have hlen : es.toList.length = blk.ch.length := st.ent.length
  refine wpIn_seq (wpIn_region_list ?_)
  rcases run_next_at (P := P) W o3a.type r bm clk clk seen es clk st.iter st.map hborn.2 (Nat.le_refl _) with ⟨h0, hrun⟩ | ⟨e, he, w1, hw1, hrun⟩
  · refine list_value hF ho.a3.2.2 (by rw [ho.a3.2.1]; intro c h; cases h) _ (w' := W) (by simp only [execOp, ho.a3.2.1]; exact exec_v (by rw [hva]; exact hrun)) ?_
    rw [ho.a3.1]
    refine list_value hF ho.b3.2.2 (by rw [ho.b3.2.1]; intro c h; cases h) (.bool false) (w' := W) (by simp only [execOp, ho.b3.2.1]; exact exec_v (by rw [put_eval _ _ _ (by omega)]; simp [Instr.extract])) ?_
    rw [ho.b3.1]
    refine wpIn_seq (wpIn_cond_false (put_eval _ _ _ (by rw [(put_defers _ _ _).2]; omega)) (wpIn_exit ?_))
    have hslots := (st.slots.put (some rm.nx) (by simp [dstOk]; omega) (.tuple #[.bool false]) (.tup [.one (.p (.bool false))]) ⟨[.bool false], rfl, .cons (RepD.p _ _ (.bool _)) .nil⟩).put (some rm.ok) (by simp [dstOk]; omega) (.bool false) (.one (.p (.bool false))) (RepD.p _ _ (.bool _))
    refine hover ?_ _ hslots
    have : (leftP (es.toList.zip blk.ch) seen.contains).map (·.1) = [] := by
      rw [leftP_fst _ _ _ hlen]
      have : (leftOf es seen).toList = [] := by simpa using h0
      rw [← this]; simp [leftOf]
    simpa using this
  · have he' : e ∈ es.toList ∧ seen.contains e.born = false := by
      simp only [leftOf, Array.toList_filter, List.mem_filter] at he
      exact ⟨he.1, by simpa using he.2⟩
    obtain ⟨q, hq⟩ := List.mem_iff_getElem?.1 he'.1
    obtain ⟨c, hc⟩ : ∃ c, blk.ch[q]? = some c := ⟨_, List.getElem?_eq_getElem (by have := (List.getElem?_eq_some_iff.1 hq).1; omega)⟩
    have hmem : (e, c) ∈ es.toList.zip blk.ch := List.mem_iff_getElem?.2 ⟨q, by simp [List.getElem?_zip_eq_some, hq, hc]⟩
    obtain ⟨s', hround, hN⟩ := hstep e c hmem he'.2
    have hg1 : Mono O W μ (HFof s.H) w1 μ (HFof s.H) ∧ HInv w1 O μ (HFof s.H) := by
      rcases hw1 with rfl | rfl
      · exact ⟨Mono.refl _ _ _ _, st.inv⟩
      · exact grow_state st.inv (Nat.le_refl _) (fun _ _ => rfl) rfl rfl rfl
    have hh1 : w1.heap = W.heap := by rcases hw1 with rfl | rfl <;> rfl
    have hr1 : w1.heap[r]? = some (.mapIter (some bm) clk seen clk) := by rw [hh1]; exact st.iter
    have hrlt : r < w1.heap.size := (Array.getElem?_eq_some_iff.1 hr1).1
    have hne : bm ≠ r := fun e => by have := st.map; rw [e, st.iter] at this; cases this
    generalize hW2 : w1.putObj r (.mapIter (some bm) clk (seen.push e.born) clk) = W2
    have hset : ChangeMaps.setBlock w1 r (.mapIter (some bm) clk (seen.push e.born) clk) = W2 := hW2
    rw [hset] at hrun
    have sd : SameData w1 W2 := by rw [← hW2]; exact same_putObj hr1 (dull_iter _ _ _ _) (dull_iter _ _ _ _)
    have hI2 : HInv W2 O μ (HFof s.H) := hg1.2.same sd
    have hS2 : Slots lo nt O W2 μ (HFof s.H) a s.T := by rw [← hW2]; exact (st.slots.mono hg1.1).same hr1 (dull_iter _ _ _ _) (fun _ h => by cases h) (dull_iter _ _ _ _)
    have hM2 : Mono O w0 μ0' hh W2 μ (HFof s.H) := by rw [← hW2]; exact mono_putObj hI0 (st.mono.trans hg1.1) st.low _
    have hit2 : W2.heap[r]? = some (.mapIter (some bm) clk (seen.push e.born) clk) := by rw [← hW2]; exact World.putObj_heap_same hrlt
    have hmp2 : W2.heap[bm]? = some (.map es clk) := by rw [← hW2, World.putObj_heap_other hne, hh1]; exact st.map
    have hent2 : All2 (EntOk W2 O μ (HFof s.H) blk) es.toList blk.ch := st.ent.imp fun x y hxy => (hxy.mono hg1.1).same sd
    obtain ⟨e2, he2, kv, xv, hk1, hk2, hk3, hk4⟩ := hent2.get q c hc
    rw [hq] at he2; cases he2
    rw [hty] at hk2
    simp only [ValOf, if_true] at hk2
    have htake : All2 (RepD W2 O μ (HFof s.H)) kv (c.take rm.klen) := by
      have := hk4.take rm.klen
      rwa [List.take_append_of_le_length (by omega), List.take_of_length_le (by omega)] at this
    have hdrop : All2 (RepD W2 O μ (HFof s.H)) xv (c.drop rm.klen) := by
      have := hk4.drop rm.klen
      rwa [List.drop_append_of_le_length (by omega), List.drop_eq_nil_of_le (by omega), List.nil_append] at this
    have hkey : RepV1 W2 O μ (HFof s.H) e.key (.agg (c.take rm.klen)) := ⟨kv, hk1, htake⟩
    have hval : RepV1 W2 O μ (HFof s.H) e.val (.agg (c.drop rm.klen)) := ⟨xv, hk2, hdrop⟩
    have hb1 : RepV1 W2 O μ (HFof s.H) (.bool true) (.one (.p (.bool true))) := RepD.p _ _ (.bool _)
    refine list_value hF ho.a3.2.2 (by rw [ho.a3.2.1]; intro c h; cases h) _ (w' := W2) (by simp only [execOp, ho.a3.2.1]; exact exec_v (by rw [hva]; exact hrun)) ?_
    rw [ho.a3.1]
    refine list_value hF ho.b3.2.2 (by rw [ho.b3.2.1]; intro c h; cases h) (.bool true) (w' := W2) (by simp only [execOp, ho.b3.2.1]; exact exec_v (by rw [put_eval _ _ _ (by omega)]; simp [Instr.extract])) ?_
    rw [ho.b3.1]
    have hsA := (hS2.put (some rm.nx) (by simp [dstOk]; omega) (.tuple #[.bool true, e.key, e.val]) (.tup [.one (.p (.bool true)), .agg (c.take rm.klen), .agg (c.drop rm.klen)]) (rep_tup3 hb1 hkey hval)).put (some rm.ok) (by simp [dstOk]; omega) (.bool true) (.one (.p (.bool true))) hb1
    refine wpIn_seq (wpIn_cond_true (put_eval _ _ _ (by rw [(put_defers _ _ _).2]; omega)) (wpIn_skip ?_))
    refine wpIn_block (wpIn_seq (wpIn_region_list ?_))
    have hva2 : (((a.put (some rm.nx) (.tuple #[.bool true, e.key, e.val])).put (some rm.ok) (.bool true)).eval (.tmp rm.it)) = .pointer (some ⟨r, 0, none⟩) := by
      show (((a.put (some rm.nx) (.tuple #[.bool true, e.key, e.val])).put (some rm.ok) (.bool true)).tmps.getD rm.it undef) = _
      rw [put_other _ _ _ _ (fun h => ho.ne.2.1 (by simpa using h)), put_other _ _ _ _ (fun h => ho.ne.1 (by simpa using h))]
      exact hva
    have hnod : (es.toList.map (·.born)).Nodup := List.pairwise_map.2 hborn.1
    show wpListIn Fence.wide 0 P (o4 :: tl).toArray _ (o4 :: tl) _ W2
    refine list_value hF ho.a4.2.2 (by rw [ho.a4.2.1]; intro c h; cases h) (.tuple #[e.key, e.val]) (w' := W2) (by simp only [execOp, ho.a4.2.1]; exact exec_v (by rw [hva2]; exact run_entry_at W2 r bm clk seen es clk e hit2 hmp2 he'.1 hnod)) ?_
    rw [ho.a4.1]
    have hsB := hsA.put (some rm.en) (by simp [dstOk]; omega) (.tuple #[e.key, e.val]) (.tup [.agg (c.take rm.klen), .agg (c.drop rm.klen)]) (rep_tup2 hkey hval)
    unfold rmRound at hround
    split at hround
    · rename_i s1 hev
      split at hround
      · rename_i s2 hev2
        obtain ⟨hiok, heq⟩ := cond_some hround
        subst heq
        refine evOps_wp (O := O) E hE hF 0 0 (nt := nt) (o4 :: tl) tl rm.tail ho.tail _ s1 _ W2 μ hev hI2 hsB fun a3 w3 μ3 g1 g2 g3 => ?_
        refine evCode_ok E hE hD K 0 nt rm.rb O Fence.wide 0 lo hF (.inl rfl) rb ho.body s1 .normal s2 hev2 a3 w3 μ3 g1 g2 _ fun a4 w4 μ4 k1 k2 k3 => ?_
        have hM := g3.trans k3
        obtain ⟨_, ib', hib', hiv', _⟩ := itOk_spec hiok
        have hmu : μ4 iid = r := by
          obtain ⟨b', h1, _, _, h4⟩ := hM.ids iid ib hib
          rw [hib'] at h1; cases h1
          rw [(h4 (by rw [hiv, hiv'])).1]; exact st.mu
        have hrlt2 : r < W2.heap.size := (Array.getElem?_eq_some_iff.1 hit2).1
        have hblt2 : bm < W2.heap.size := (Array.getElem?_eq_some_iff.1 hmp2).1
        exact hN _ _ _ ⟨k1, k2, hM2.trans hM, (hM.keeps.keep _ hblt2 st.nlb).trans hmp2, (hM.keeps.keep _ hrlt2 st.nlr).trans hit2, hiok, hmu, fun hl => (hM.keeps.live _ hl).elim st.nlr (by omega), fun hl => (hM.keeps.live _ hl).elim st.nlb (by omega), st.low, hent2.imp fun x y hxy => hxy.mono hM⟩
      · simp at hround
    · simp at hround

/-- The loop over the entries. -/
theorem rm_loop (E : Oracle) (hE : OracleOk P E) (hD : DrawOk P E) (K : Nat) {nt lo : Nat} (rm : RM) {o2a o2b o3a o3b o4 : Oper} {tl : List Oper} {rb : Code} (ho : RMOps P nt rm o2a o2b o3a o3b o4 tl rb) (i3 i4 iid : Nat)
    {w0 : World} {μ0' : Nat → Nat} {hh : HF} (hI0 : HInv w0 O μ0' hh) (es : Array MapEntry) (clk bm r : Nat) (blk : Blk) (hsz : blk.sz = rm.klen) (hty : Nat.beq blk.ty 1 = true) (hborn : Born es.toList clk) (Q : Exit → Act → World → Prop) (ss : List St)
    (hQ : ∀ s ∈ ss, ∀ a W μ, HInv W O μ (HFof s.H) → Slots lo nt O W μ (HFof s.H) a ((rm.ok, .one (.p (.bool false))) :: (rm.nx, .tup [.one (.p (.bool false))]) :: s.T) → Mono O w0 μ0' hh W μ (HFof s.H) → Q (.exit rm.b) a W) :
    ∀ (k : Nat) (seen : Array Nat) (s : St) (W : World) (μ : Nat → Nat) (a : Act) (fs : List St), RMSt nt lo rm iid O w0 μ0' hh es clk bm r blk seen s W μ a → (leftP (es.toList.zip blk.ch) seen.contains).length = k → finals E K rm iid k ((leftP (es.toList.zip blk.ch) seen.contains).map (·.2)) s = some fs → (∀ x ∈ fs, x ∈ ss) →
      Code.roundsIn Fence.wide 0 P (rmLoop rm i3 i4 o3a o3b o4 tl rb) Q (k + 1) a W := by
  intro k
  induction k with
  | zero =>
    intro seen s W μ a fs st hk hf hss
    have hnil : leftP (es.toList.zip blk.ch) seen.contains = [] := List.eq_nil_of_length_eq_zero hk
    refine rm_round E hE hD K rm ho i3 i4 iid hI0 es clk bm r blk hsz hty hborn Q _ seen s W μ a st (fun _ a' hs => ?_) fun e c hm hs => ?_
    · rw [hnil] at hf
      simp only [List.map_nil, finals, Option.some.injEq] at hf
      exact hQ s (hss s (by rw [← hf]; simp)) a' W μ st.inv hs st.mono
    · exfalso
      have : (e, c) ∈ leftP (es.toList.zip blk.ch) seen.contains := List.mem_filter.2 ⟨hm, by simp only [hs, Bool.not_false]⟩
      rw [hnil] at this; simp at this
  | succ k ih =>
    intro seen s W μ a fs st hk hf hss
    refine rm_round E hE hD K rm ho i3 i4 iid hI0 es clk bm r blk hsz hty hborn Q _ seen s W μ a st (fun hnil => ?_) fun e c hm hs => ?_
    · rw [hnil] at hk; simp at hk
    · obtain ⟨i, h1, h2⟩ := leftP_push seen.contains (seen.push e.born).contains (es.toList.zip blk.ch) e c (fun y => contains_push' seen e.born y) (pairwise_zip _ _ hborn.1) hm hs
      cases hl : (leftP (es.toList.zip blk.ch) seen.contains).map (·.2) with
      | nil => have : ((leftP (es.toList.zip blk.ch) seen.contains).map (·.2)).length = 0 := by rw [hl]; rfl
               simp at this; rw [this] at hk; simp at hk
      | cons c0 cs0 =>
      rw [hl] at hf
      simp only [finals] at hf
      split at hf
      · rename_i ls hls
        simp only [Option.some.injEq] at hf; subst hf
        have hpm : (c, (c0 :: cs0).eraseIdx i) ∈ picks (c0 :: cs0) := picks_mem _ _ _ (by rw [← hl, List.getElem?_map, h1]; rfl)
        obtain ⟨j, hj⟩ := List.mem_iff_getElem?.1 hpm
        obtain ⟨hlen, hget⟩ := mapO_get hls
        have hjl : j < ls.length := by rw [← hlen]; exact (List.getElem?_eq_some_iff.1 hj).1
        obtain ⟨p, hp1, hp2⟩ := hget j ls[j] (List.getElem?_eq_getElem hjl)
        rw [hj] at hp1; cases hp1
        simp only at hp2
        split at hp2
        · rename_i s' hr
          refine ⟨s', hr, fun W' μ' a' st' => ih (seen.push e.born) s' W' μ' a' ls[j] st' ?_ ?_ fun x hx => hss x (List.mem_flatten.2 ⟨ls[j], List.getElem_mem hjl, hx⟩)⟩
          · rw [h2, List.length_eraseIdx, if_pos (List.getElem?_eq_some_iff.1 h1).1]; omega
          · rw [h2]
            have : ((leftP (es.toList.zip blk.ch) seen.contains).eraseIdx i).map (·.2) = (c0 :: cs0).eraseIdx i := by rw [← hl, map_eraseIdx']
            rw [this]; exact hp2
        · simp at hp2
      · simp at hf

end
end Go.Ev
