/- The library's sort, as a call over the caller's blocks: the chunks of a slice end up in the one order in which they are sorted. -/
import Derived.Test.YtidginchkjhobaaGreatEvTop
import Derived.Test.YtidginchkjhobaaGreatEvDrawn
import Derived.Lib.QuietBelow
import Derived.Shelf.SlSortCmp.NoneTotal
namespace Go.Ev
open Go.RowKit Go.Shelf Go.Lib Go.Sort Go.Proofs

section
variable {P : Program} {O : BS} {w : World} {μ : Nat → Nat} {h : HF}

/-- What a comparison answers in a world of the sort's. -/
theorem cmp_lays {g : Nat} {caps : List PL} {cv : List Value} {x y : List PL} {xv yv : List Value} {z : Int} {W : World} {L : BS} (hc : CC P g (.agg x :: .agg y :: caps.map .one) (.one (.int .i64 z)))
    (hl : ∀ b, L b → b < W.heap.size) (hx : All2 (RepP W L) xv x) (hy : All2 (RepP W L) yv y) (hcv : All2 (RepP W L) cv caps) :
    Calls P g (#[.agg xv.toArray, .agg yv.toArray] ++ cv.toArray) W fun e w' => e = .returned (.int .i64 z) ∧ ∃ q os', w' = grow (W.drewN q) os' := by
  have lift : ∀ {vs : List Value} {ls : List PL}, All2 (RepP W L) vs ls → All2 (RepD W L μ0 h0) vs (ls.map .p) := by
    intro vs ls ha
    induction ha with
    | nil => exact .nil
    | cons h _ ih => exact .cons (.p _ _ (by rw [live_h0]; exact h)) ih
  have hargs : All2 (fun v p => RepV W L μ0 h0 v (inj p)) (.agg xv.toArray :: .agg yv.toArray :: cv) (.agg x :: .agg y :: caps.map .one) := by
    refine .cons ⟨xv, rfl, lift hx⟩ (.cons ⟨yv, rfl, lift hy⟩ ?_)
    clear hc
    induction hcv with
    | nil => exact .nil
    | cons h _ ih => exact .cons (RepD.p _ _ (by rw [live_h0]; exact h)) ih
  have h1 := hc W L _ hl hargs
  have h2 := calls_drawn h1 (fun e w' ⟨v, he, _⟩ => ⟨v, he⟩)
  have e : (#[.agg xv.toArray, .agg yv.toArray] ++ cv.toArray) = (Value.agg xv.toArray :: .agg yv.toArray :: cv).toArray := by simp
  rw [e]
  refine h2.mono fun e w' ⟨⟨v, he, hv, hb⟩, hd⟩ => ?_
  have hv' : v = .int .i64 z := by
    cases hv with
    | p _ _ hp => cases hp; rfl
  subst hv'
  refine ⟨he, ?_⟩
  obtain ⟨p, hp⟩ := regrown_of_below hb
  refine ⟨p.d - W.drawn, p.os, ?_⟩
  have : w'.drawn = p.d := by rw [hp]; rfl
  rw [hp]
  have e2 : W.drawn + (p.d - W.drawn) = p.d := by omega
  unfold redrawn World.drewN
  rw [e2]

theorem BlkOk.of_row {id : Nat} {b : Blk} (hm : b.mp = false) {C : Array Value} (hC : w.heap[μ id]? = some (.cells C b.ty (0, 0))) (hl : b.ch.length * b.sz ≤ C.size)
    (hc : ∀ (i : Nat) (c : List DL), b.ch[i]? = some c → c.length = b.sz ∧ ∀ (j : Nat) (d : DL), c[j]? = some d → ∃ v, C[i * b.sz + j]? = some v ∧ RepD w O μ h v d) : BlkOk w O μ h id b := by
  unfold BlkOk
  rw [hm, if_neg (by simp)]
  exact ⟨C, hC, hl, hc⟩

/-- The world behind a sort: only the row has turned. -/
theorem sortWorld_heap {α : Type} [Inhabited α] (enc : α → List Value) (k : Nat) (w : World) (blk m : Nat) (dk : Array α) (os : Array Obj) (b : Nat) (hb : b < w.heap.size) (hne : b ≠ blk) : (sortWorldK enc k w blk 0 m dk os).heap[b]? = w.heap[b]? := by
  unfold sortWorldK grow putRowK putRow mapBlock Sort.ahead
  rw [Array.getElem?_append_left (by simpa using hb), Array.getElem?_modify, if_neg (fun e => hne e.symm)]
theorem sortWorld_row {α : Type} [Inhabited α] (enc : α → List Value) (k : Nat) (w : World) (blk m : Nat) (dk : Array α) (os : Array Obj) {C : Array Value} {T : TypeId} (hC : w.heap[blk]? = some (.cells C T (0, 0))) :
    (sortWorldK enc k w blk 0 m dk os).heap[blk]? = some (.cells (putCells id 0 (flatK enc k dk) C) T (0, 0)) := by
  have hb : blk < w.heap.size := (Array.getElem?_eq_some_iff.1 hC).1
  unfold sortWorldK grow putRowK putRow mapBlock Sort.ahead
  rw [Array.getElem?_append_left (by simpa using hb), Array.getElem?_modify, if_pos rfl, hC]
  rfl

theorem extract_full {α : Type} (a : Array α) {n : Nat} (h : a.size = n) : a.extract 0 n = a := by subst h; exact Array.extract_size
/-- The chunks of a row. -/
def chunkV (C : Array Value) (k : Nat) (i : Nat) : List Value := (C.toList.drop (i * k)).take k
theorem chunkV_len {C : Array Value} {k n i : Nat} (h : n * k ≤ C.size) (hi : i < n) : (chunkV C k i).length = k := by
  have := Nat.mul_le_mul_right k (show i + 1 ≤ n from hi)
  rw [Nat.add_mul, Nat.one_mul] at this
  simp only [chunkV, List.length_take, List.length_drop, Array.length_toList]
  omega
theorem chunkV_get {C : Array Value} {k i j : Nat} (hj : j < k) : (chunkV C k i)[j]? = C[i * k + j]? := by
  rw [chunkV, List.getElem?_take, if_pos hj, List.getElem?_drop, Array.getElem?_toList]

theorem flat_div {k n t : Nat} (h : t < n * k) : t / k < n ∧ t % k < k ∧ t / k * k + t % k = t := by
  have k0 : 0 < k := by
    rcases Nat.eq_zero_or_pos k with e | e
    · subst e; simp at h
    · exact e
  exact ⟨Nat.div_lt_of_lt_mul (by rw [Nat.mul_comm]; exact h), Nat.mod_lt _ k0, Nat.div_add_mod' t k⟩

theorem flat_get {n k : Nat} [Inhabited (Fin n)] {C : Array Value} (h : n * k ≤ C.size) (dk : Array (Fin n)) (hs : dk.size = n) {t : Nat} (ht : t < n * k) :
    some ((flatK (fun i : Fin n => chunkV C k i) k dk)[t]!) = C[(dk[t / k]!).val * k + t % k]? := by
  obtain ⟨h1, h2, h3⟩ := flat_div ht
  rw [get_flatK _ _ _ _ (by rw [hs]; exact ht)]
  have hl := chunkV_len h (dk[t / k]!).isLt
  rw [← chunkV_get h2]
  rw [getElem!_pos _ _ (by rw [hl]; exact h2), List.getElem?_eq_getElem (by rw [hl]; exact h2)]

end

set_option maxHeartbeats 1000000 in
theorem pdq_CH {P : Program} {ρ : Ren} (L : SlLaysF0.n14 P ρ) {k : Nat} (aE : ∀ w, (isAgg (ρ.t 24)).run P w = .ok true w) (zE : ∀ w, (Go.sizeOf (ρ.t 24)).run P w = .ok k w) {f g : Nat} (hf : ρ.f 14 = f) (hg : Nat.blt g bnd = true) (eg : Ent P g) (caps : List PL)
    (cmpF : List PL → List PL → Int) (H : List Blk) (id : Nat) (b : Blk) (es ds : List (List PL)) (lm : Nat) (hb : H[id]? = some b) (hmp : b.mp = false) (hfz : b.fz = false) (hsz : b.sz = k) (hch : b.ch = es.map (·.map DL.p))
    (hlm : lm < 4611686018427387904) (hn : es.length < 4611686018427387904) (hcmp : ∀ x ∈ es, ∀ y ∈ es, CC P g (.agg x :: .agg y :: caps.map .one) (.one (.int .i64 (cmpF x y))))
    (irr : ∀ x ∈ es, ¬ cmpF x x < 0) (tr : ∀ x ∈ es, ∀ y ∈ es, ∀ z ∈ es, cmpF x y < 0 → cmpF y z < 0 → cmpF x z < 0) (ntr : ∀ x ∈ es, ∀ y ∈ es, ∀ z ∈ es, ¬ cmpF x y < 0 → ¬ cmpF y z < 0 → ¬ cmpF x z < 0)
    (tot : ∀ x ∈ es, ∀ y ∈ es, ¬ cmpF x y < 0 → ¬ cmpF y x < 0 → x = y) (hp : ds.Perm es) (hs : ds.Pairwise fun x y => ¬ cmpF y x < 0) :
    CH P f [.one (.own id b.ver 0 es.length), .one (.p (.int .i64 (.ofNat 0))), .one (.p (.int .i64 (.ofNat es.length))), .one (.p (.int .i64 (.ofNat lm))), .one (.p (.fn g caps))] H (.tup []) (H.set id { b with ch := ds.map (·.map DL.p) }) := by
  intro w O μ vs hI hargs
  have hidl : id < H.length := (List.getElem?_eq_some_iff.1 hb).1
  have hbH : HFof H id = some b := hb
  cases hargs with | cons a1 t => ?_
  cases t with | cons a2 t => ?_
  cases t with | cons a3 t => ?_
  cases t with | cons a4 t => ?_
  cases t with | cons a5 t => ?_
  cases t
  rename_i v1 v2 v3 v4 v5
  have e2 : v2 = .int .i64 (.ofNat 0) := by cases a2 with | p _ _ hp => cases hp; rfl
  have e3 : v3 = .int .i64 (.ofNat es.length) := by cases a3 with | p _ _ hp => cases hp; rfl
  have e4 : v4 = .int .i64 (.ofNat lm) := by cases a4 with | p _ _ hp => cases hp; rfl
  obtain ⟨cv, e5, hcl, hcr⟩ : ∃ cv, v5 = .func (.func g) #[] cv.toArray ∧ cv.length = caps.length ∧ All2 (RepP w (Live O μ (HFof H))) cv caps := by
    cases a5 with | p _ _ hp => ?_
    cases hp with | fn _ _ cv hl hc => ?_
    refine ⟨cv, fnV_t hg cv, hl, All2.of_get hl fun i x y hx hy => hc i y x hy hx⟩
  have hbo := hI.blk id b hbH
  unfold BlkOk at hbo
  rw [hmp] at hbo
  simp only [Bool.false_eq_true, if_false] at hbo
  obtain ⟨C, hC, hCs, hCc⟩ := hbo
  obtain ⟨cap, e1⟩ : ∃ cap, v1 = .slice (some ⟨μ id, 0, none⟩) es.length cap := by
    cases a1 with | own _ _ _ _ b2 g2 o cap hb2 hv hl hs2 => ?_
    rw [hbH] at hb2; cases hb2
    obtain ⟨rfl, C2, T2, hC2, hd⟩ := hs2 rfl
    rcases hd with ⟨ho, -, -⟩ | ⟨-, -, h0⟩
    · rw [Nat.zero_mul] at ho; subst ho; exact ⟨cap, rfl⟩
    · omega
  subst e1; subst e2; subst e3; subst e4; subst e5
  subst hf
  by_cases hne : es = []
  · subst hne
    have hds : ds = [] := by simpa using hp.length_eq
    subst hds
    have hsame : ({ b with ch := ([] : List (List PL)).map (·.map DL.p) } : Blk) = b := by
      have : b.ch = [] := by simpa using hch
      cases b; simp_all
    have hset : H.set id b = H := by
      obtain ⟨h1, h2⟩ := List.getElem?_eq_some_iff.1 hb
      apply List.ext_getElem (by simp)
      intro i h3 h4
      rw [List.getElem_set]
      split
      · rename_i e; subst e; exact h2.symm
      · rfl
    rw [hsame, hset]
    refine (AnyF.pdqsortCmpFunc_none L (some ⟨μ id, 0, none⟩) cap lm (.func (.func g) #[] cv.toArray) w).mono fun e w' ⟨he, hw⟩ => ?_
    subst hw
    exact ⟨_, μ, he, ⟨[], rfl, .nil⟩, hI, Mono.refl ..⟩
  · have hpos : 0 < es.length := List.length_pos_iff.2 hne
    haveI : Inhabited (Fin es.length) := ⟨⟨0, hpos⟩⟩
    have hlenb : b.ch.length = es.length := by rw [hch]; simp
    rw [hlenb, hsz] at hCs
    have hchunk : ∀ (i : Nat) (c : List PL), es[i]? = some c → c.length = k ∧ All2 (RepP w (Live O μ (HFof H))) (chunkV C k i) c := by
      intro i c hi
      have hi' : i < es.length := (List.getElem?_eq_some_iff.1 hi).1
      have h1 := hCc i (c.map DL.p) (by rw [hch, List.getElem?_map, hi]; rfl)
      rw [hsz] at h1
      have hck : c.length = k := by simpa using h1.1
      refine ⟨hck, All2.of_get (by rw [chunkV_len hCs hi', hck]) fun j v d hv hd => ?_⟩
      have hj : j < k := by rw [← hck]; exact (List.getElem?_eq_some_iff.1 hd).1
      rw [chunkV_get hj] at hv
      obtain ⟨v', hv', hr⟩ := h1.2 j (.p d) (by rw [List.getElem?_map, hd]; rfl)
      rw [hv] at hv'; cases hv'
      cases hr with | p _ _ hp => exact hp
    have hget : ∀ i : Fin es.length, es[i.val]? = some es[i.val] := fun i => List.getElem?_eq_getElem i.isLt
    -- the enumeration
    have hkk : ∀ i : Fin es.length, (chunkV C k i).length = k := fun i => chunkV_len hCs i.isLt
    have h1c : ∀ i : Fin es.length, ∀ v ∈ chunkV C k i, v.oneCell' = true := by
      intro i v hv
      obtain ⟨j, hj⟩ := List.mem_iff_getElem?.1 hv
      have ha := (hchunk i _ (hget i)).2
      have hjl : j < es[i.val].length := by rw [← ha.length]; exact (List.getElem?_eq_some_iff.1 hj).1
      obtain ⟨x, hx, hr⟩ := ha.get j _ (List.getElem?_eq_getElem hjl)
      rw [hj] at hx; cases hx
      exact hr.one
    let d0 : Array (Fin es.length) := Array.ofFn fun i => i
    have hd0 : d0.size = es.length := by simp [d0]
    have hd0g : ∀ i (hi : i < es.length), d0[i]! = ⟨i, hi⟩ := by
      intro i hi
      rw [getElem!_pos d0 i (by rw [hd0]; exact hi)]
      simp [d0]
    have hH : HoldsK (fun i : Fin es.length => chunkV C k i) k w (μ id) 0 d0 := by
      intro j hj
      rw [size_flatK, hd0] at hj
      have hf := flat_get hCs d0 hd0 hj
      obtain ⟨q1, q2, q3⟩ := flat_div hj
      rw [hd0g _ q1] at hf
      rw [q3] at hf
      have hjC : j < C.size := by omega
      refine ⟨?_, ?_⟩
      · simp only [World.cell?, hC, Nat.zero_add]
        simpa using hf.symm
      · simp [World.frozen?, hC]
    have hlt : ∀ q, Live O μ (HFof H) q → q < w.heap.size := by
      rintro q (hq | ⟨i, blk, h1, _, rfl⟩)
      · exact hI.lt q hq
      · exact hI.lt_size h1
    have hlive : Live O μ (HFof H) (μ id) := .inr ⟨id, b, hbH, hfz, rfl⟩
    have keepW : ∀ (m : Nat) (dk : Array (Fin es.length)) (os : Array Obj), Keeps w (Live O μ (HFof H)) (sortWorldK (fun i : Fin es.length => chunkV C k i) k w (μ id) 0 m dk os) (Live O μ (HFof H)) := by
      intro m dk os
      exact ⟨size_sortWorldK_c _ _ _ _ _ _ _ _, fun q hq hl => sortWorld_heap _ _ _ _ _ _ _ _ hq fun e => hl (e ▸ hlive), fun q hq => .inl hq⟩
    let cf : Fin es.length → Fin es.length → Int := fun i j => cmpF es[i.val] es[j.val]
    have hmem : ∀ i : Fin es.length, es[i.val] ∈ es := fun i => List.getElem_mem i.isLt
    have hO : SWO (ltOf cf) := by
      refine ⟨fun x => ?_, fun x y z h1 h2 => ?_, fun x y z h1 h2 => ?_⟩
      · simp only [ltOf, cf, decide_eq_false_iff_not]; exact irr _ (hmem x)
      · simp only [ltOf, cf, decide_eq_true_eq] at *; exact tr _ (hmem x) _ (hmem y) _ (hmem z) h1 h2
      · simp only [ltOf, cf, decide_eq_false_iff_not] at *; exact ntr _ (hmem x) _ (hmem y) _ (hmem z) h1 h2
    have hcl : CmpLays P g cv.toArray (fun i : Fin es.length => chunkV C k i) k cf (μ id) 0 d0.size w := by
      intro m os dk hdk x y
      have kp := keepW m dk os
      refine cmp_lays (L := Live O μ (HFof H)) (hcmp _ (hmem x) _ (hmem y)) (fun q hq => Nat.lt_of_lt_of_le (hlt q hq) kp.size) ?_ ?_ ?_
      · exact ((hchunk x _ (hget x)).2).imp fun _ _ h => h.keeps kp
      · exact ((hchunk y _ (hget y)).2).imp fun _ _ h => h.keeps kp
      · exact hcr.imp fun _ _ h => h.keeps kp
    have hblk : μ id < w.heap.size := hI.lt_size hbH
    have hmain := AnyQ.pdqsortCmpFunc_all L k aE zE (fun i : Fin es.length => chunkV C k i) cf g cv.toArray hO (μ id) 0 cap d0 w eg hcl ⟨hkk, h1c, hH, hblk⟩ (es.length + 1) 0 es.length lm d0 w (by omega) rfl (SWK.start hH) (Nat.zero_le _) (by rw [hd0]; exact Nat.le_refl _) (by rw [hd0]; exact hn) hlm (Or.inl rfl)
    rw [hd0] at hmain
    refine hmain.mono fun e w' ⟨he, hsw⟩ => ?_
    clear hmain
    obtain ⟨hperm, hsort⟩ := pdq_sorts (ltOf cf) hO d0 0 es.length lm true true (Nat.zero_le _) (by rw [hd0]; exact Nat.le_refl _) (Or.inl rfl)
    obtain ⟨m, os, rfl⟩ := hsw
    generalize pdq (ltOf cf) d0 0 es.length lm true true = dk at hperm hsort
    obtain ⟨hsz1, -, hperm⟩ := hperm
    have hsz2 : dk.size = es.length := by rw [hsz1, hd0]
    have x1 : dk.extract 0 es.length = dk := extract_full dk hsz2
    have x2 : d0.extract 0 es.length = d0 := extract_full d0 hd0
    rw [x1, x2] at hperm
    have hd0m : d0.toList.map (fun i => es[i.val]) = es := by
      apply List.ext_getElem (by simp [hd0])
      intro i h1 h2
      simp [d0]
    have heq : ds = dk.toList.map fun i => es[i.val] := by
      have hp2 : (dk.toList.map fun i => es[i.val]).Perm es := by
        have := hperm.map fun i : Fin es.length => es[i.val]
        rwa [hd0m] at this
      refine List.Perm.eq_of_pairwise (le := fun x y => ¬ cmpF y x < 0) (fun x y hx hy h1 h2 => tot x (hp.mem_iff.1 hx) y (hp2.mem_iff.1 hy) h2 h1) hs ?_ (hp.trans hp2.symm)
      rw [List.pairwise_map, List.pairwise_iff_getElem]
      intro i j hi hj hij
      have := hsort i j (Nat.zero_le _) hij (by rw [← hsz2]; simpa using hj)
      rw [getElem!_pos dk i (by simpa using hi), getElem!_pos dk j (by simpa using hj)] at this
      simpa [ltOf, cf] using this
    have hdl : ds.length = es.length := hp.length_eq
    have kp := keepW m dk os
    have hrow := sortWorld_row (fun i : Fin es.length => chunkV C k i) k w (μ id) m dk os hC
    have hCs2 : (putCells _root_.id 0 (flatK (fun i : Fin es.length => chunkV C k i) k dk) C).size = C.size := by simp [putCells]
    generalize hW : sortWorldK (fun i : Fin es.length => chunkV C k i) k w (μ id) 0 m dk os = W at hrow kp
    have hWo : W.os = w.os ∧ W.tape = w.tape ∧ W.output = w.output := by rw [← hW]; exact ⟨rfl, rfl, rfl⟩
    have hWh : ∀ q, q < w.heap.size → q ≠ μ id → W.heap[q]? = w.heap[q]? := by
      intro q h1 h2; rw [← hW]; exact sortWorld_heap _ _ _ _ _ _ _ _ h1 h2
    obtain ⟨hM, hI'⟩ := write_state (b' := { b with ch := ds.map (·.map DL.p) }) hI hbH hmp hmp hfz hC hrow kp.size hWh (.inl rfl) (Nat.le_refl _) (fun _ => ⟨rfl, rfl, hCs2⟩) hWo.1 hWo.2.1 hWo.2.2
    rw [HFof_set H id _ hidl]
    refine ⟨_, _, he, ⟨[], rfl, .nil⟩, hI' ?_, hM⟩
    refine BlkOk.of_row (b := { b with ch := ds.map (·.map DL.p) }) hmp (by rw [if_pos rfl]; exact hrow) ?_ fun i c hi => ?_
    · show (ds.map (·.map DL.p)).length * b.sz ≤ _
      rw [hCs2, List.length_map, hdl, hsz]; exact hCs
    · show c.length = b.sz ∧ ∀ (j : Nat) (d : DL), c[j]? = some d → ∃ v, (putCells _root_.id 0 (flatK (fun i : Fin es.length => chunkV C k i) k dk) C)[i * b.sz + j]? = some v ∧ _
      simp only [List.getElem?_map, Option.map_eq_some_iff] at hi
      obtain ⟨c', hi, rfl⟩ := hi
      have hil : i < es.length := by rw [← hdl]; exact (List.getElem?_eq_some_iff.1 hi).1
      have hid : i < dk.size := by rw [hsz2]; exact hil
      have hc' : c' = es[(dk[i]!).val] := by
        rw [heq, List.getElem?_map, Array.getElem?_toList, Array.getElem?_eq_getElem hid] at hi
        have hg := getElem!_pos dk i hid
        simp only [hg]
        simpa using hi.symm
      obtain ⟨hck, hrep⟩ := hchunk (dk[i]!).val c' (by rw [hc']; exact hget _)
      refine ⟨by rw [hsz]; simpa using hck, fun j d hj => ?_⟩
      simp only [List.getElem?_map, Option.map_eq_some_iff] at hj
      obtain ⟨l, hj, rfl⟩ := hj
      have hjk : j < k := by rw [← hck]; exact (List.getElem?_eq_some_iff.1 hj).1
      obtain ⟨v, hv, hr⟩ := hrep.get j l hj
      rw [chunkV_get hjk] at hv
      have ht : i * k + j < es.length * k := by
        have := Nat.mul_le_mul_right k (show i + 1 ≤ es.length from hil)
        rw [Nat.add_mul, Nat.one_mul] at this; omega
      have k0 : 0 < k := by omega
      have q1 : (i * k + j) / k = i := by rw [Nat.add_comm, Nat.add_mul_div_right _ _ k0, Nat.div_eq_of_lt hjk, Nat.zero_add]
      have q2 : (i * k + j) % k = j := by rw [Nat.add_comm, Nat.add_mul_mod_self_right, Nat.mod_eq_of_lt hjk]
      have hfg := flat_get hCs dk hsz2 ht
      simp only [q1, q2] at hfg
      rw [hv] at hfg
      refine ⟨v, ?_, RepD.mono hM (RepD.p _ _ hr)⟩
      rw [hsz]
      simp only [putCells, Array.getElem?_mapIdx, size_flatK, hsz2]
      rw [Array.getElem?_eq_getElem (by omega), Option.map_some, if_pos ⟨Nat.zero_le _, by omega⟩]
      simpa using hfg
end Go.Ev
