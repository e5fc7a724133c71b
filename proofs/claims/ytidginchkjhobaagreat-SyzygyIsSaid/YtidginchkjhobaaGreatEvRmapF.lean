/- A function that ranges over a map: its contract. -/
import Derived.Test.YtidginchkjhobaaGreatEvRmap
namespace Go.Ev
open Go.RowKit

/-! ### equality of pure values, as a test -/

def eqLs {α : Type} (f : α → α → Bool) : List α → List α → Bool
  | [], [] => true
  | x :: xs, y :: ys => f x y && eqLs f xs ys
  | _, _ => false

def eqPL : Nat → PL → PL → Bool
  | _, .bool a, .bool b => (a && b) || (!a && !b)
  | _, .int k a, .int k' b => keq k k' && eqF a b
  | _, .nilS, .nilS => true
  | n + 1, .lst a, .lst b => eqLs (eqLs (eqPL n)) a b
  | n + 1, .ref a, .ref b => eqLs (eqPL n) a b
  | _, _, _ => false

def eqPV : PV → PV → Bool
  | .one a, .one b => eqPL 6 a b
  | .agg a, .agg b => eqLs (eqPL 6) a b
  | _, _ => false

theorem eqLs_eq {α : Type} {f : α → α → Bool} (hf : ∀ x y, f x y = true → x = y) : ∀ (a b : List α), eqLs f a b = true → a = b
  | [], [], _ => rfl
  | [], _ :: _, h => by simp [eqLs] at h
  | _ :: _, [], h => by simp [eqLs] at h
  | x :: xs, y :: ys, h => by
    simp only [eqLs, Bool.and_eq_true] at h
    rw [hf x y h.1, eqLs_eq hf xs ys h.2]

theorem eqPL_eq : ∀ (n : Nat) (a b : PL), eqPL n a b = true → a = b := by
  intro n
  induction n with
  | zero =>
    intro a b h
    cases a <;> cases b <;> simp only [eqPL, Bool.false_eq_true] at h
    · rename_i x y; cases x <;> cases y <;> simp at h <;> rfl
    · rename_i k x k' y
      rw [Bool.and_eq_true] at h
      rw [(keq_iff _ _).1 h.1, show x = y by have := h.2; rw [eqF_eq] at this; simpa using this]
    · rfl
  | succ n ih =>
    intro a b h
    cases a <;> cases b <;> simp only [eqPL, Bool.false_eq_true] at h
    · rename_i x y; cases x <;> cases y <;> simp at h <;> rfl
    · rename_i k x k' y
      rw [Bool.and_eq_true] at h
      rw [(keq_iff _ _).1 h.1, show x = y by have := h.2; rw [eqF_eq] at this; simpa using this]
    · rfl
    · rename_i x y
      rw [eqLs_eq (fun u v huv => eqLs_eq ih u v huv) x y h]
    · rename_i x y
      rw [eqLs_eq ih x y h]

theorem eqPV_eq (a b : PV) (h : eqPV a b = true) : a = b := by
  cases a <;> cases b <;> simp only [eqPV, Bool.false_eq_true] at h
  · rw [eqPL_eq 6 _ _ h]
  · rw [eqLs_eq (eqPL_eq 6) _ _ h]

/-! ### the function -/

def rmPost (E : Oracle) (K : Nat) (rm : RM) (s : St) : Option PV :=
  match evCode E K 0 rm.post ⟨(rm.ok, .one (.p (.bool false))) :: (rm.nx, .tup [.one (.p (.bool false))]) :: s.T, s.H⟩ with
  | some (.normal, s1) | some (.ret, s1) =>
    match mapO (loadRes s1) rm.results with
    | some rs => match mapO (freezeV1 (HFof s1.H)) rs with
      | some ps => some (packP ps)
      | none => none
    | none => none
  | _ => none

def frzB (b : Blk) : Blk := { b with fz := true }

def sameAll (r : PV) : List PV → Bool
  | [] => true
  | x :: xs => eqPV r x && sameAll r xs

def evRmapF (E : Oracle) (K : Nat) (rm : RM) (args : List DV) (H : List Blk) : Option (DV × List Blk) :=
  match (bif Nat.ble args.length rm.ntmps then evCode E K 0 rm.pre0 ⟨argsT args 0, H.map frzB⟩ else none) with
  | some (.normal, s1) =>
    match evCode E K 0 rm.pre1 s1 with
    | some (.normal, s2) =>
      match getT s2.T rm.m with
      | some (.one (.mp id)) =>
        match s2.H[id]? with
        | some b => bif b.mp && b.fz && Nat.beq b.ty 1 && Nat.beq b.sz rm.klen then
            match finals E K rm s2.H.length b.ch.length b.ch ⟨(rm.it, .one (.ptr s2.H.length 0 0 0)) :: (rm.m2, .one (.mp id)) :: s2.T, s2.H ++ [⟨true, 0, 0, [], true, 2⟩]⟩ with
            | some ss =>
              match mapO (rmPost E K rm) ss with
              | some (r :: rs) => bif sameAll r rs then some (inj r, H.map frzB) else none
              | _ => none
            | none => none
          else none
        | none => none
      | _ => none
    | _ => none
  | _ => none

structure RMFun (P : Program) (f : Nat) (rm : RM) : Prop where
  ok : ∃ fn R0 R1 C i2 i3 i4 o2a o2b o3a o3b o4 tl rb, P.funcs[f]? = some fn ∧
    fn.body = some (Code.seq R0 (Code.seq R1 (Code.seq (Code.seq (Code.region i2 #[o2a, o2b] false) (Code.block rm.b (Code.loop (rmLoop rm i3 i4 o3a o3b o4 tl rb)))) C))) ∧ (fn.name == "runtime.NumGoroutine") = false ∧ fn.ntmps = rm.ntmps ∧
    compCode P fn.ntmps R0 = some rm.pre0.erase ∧ compCode P fn.ntmps R1 = some rm.pre1.erase ∧ compCode P fn.ntmps C = some rm.post.erase ∧ mapO (compRes P) fn.results.toList = some rm.results ∧ RMOps P fn.ntmps rm o2a o2b o3a o3b o4 tl rb

theorem HFof_frz (H : List Blk) : HFof (H.map frzB) = frz (HFof H) (List.range H.length) := by
  funext x
  simp only [HFof, frz, List.getElem?_map]
  cases hx : H[x]? with
  | none => simp
  | some b =>
    have : x < H.length := (List.getElem?_eq_some_iff.1 hx).1
    simp [frzB, this]

theorem sameAll_eq {r : PV} : ∀ (l : List PV), sameAll r l = true → ∀ x ∈ l, x = r
  | [], _, x, hx => by simp at hx
  | y :: l, h, x, hx => by
    simp only [sameAll, Bool.and_eq_true] at h
    rcases List.mem_cons.1 hx with rfl | hx
    · exact (eqPV_eq _ _ h.1).symm
    · exact sameAll_eq l h.2 x hx

/-- A range over a map whose every order has the same outcome. -/
theorem rmapF_CH2 {P : Program} (E : Oracle) (hE : OracleOk P E) (hD : DrawOk P E) (K : Nat) {f : Nat} {rm : RM} (hf : RMFun P f rm) (args : List DV) (H : List Blk) (r : PV) {s1 s2 : St} {id : Nat} {b : Blk} {ss : List St} (hle : args.length ≤ rm.ntmps)
    (hev0 : evCode E K 0 rm.pre0 ⟨argsT args 0, H.map frzB⟩ = some (.normal, s1)) (hev1 : evCode E K 0 rm.pre1 s1 = some (.normal, s2)) (hmid : getT s2.T rm.m = some (.one (.mp id))) (hb : s2.H[id]? = some b) (hmp : b.mp = true) (hfz : b.fz = true) (hty : Nat.beq b.ty 1 = true) (hsz : b.sz = rm.klen)
    (hfin : finals E K rm s2.H.length b.ch.length b.ch ⟨(rm.it, .one (.ptr s2.H.length 0 0 0)) :: (rm.m2, .one (.mp id)) :: s2.T, s2.H ++ [⟨true, 0, 0, [], true, 2⟩]⟩ = some ss) (hpost : ∀ s ∈ ss, rmPost E K rm s = some r) : CH P f args H (inj r) (H.map frzB) ∧ Ent P f := by
  obtain ⟨fn, R0, R1, C, i2, i3, i4, o2a, o2b, o3a, o3b, o4, tl, rb, hfn, hbody, hname, hnt, hc0, hc1, hcC, hres, ho⟩ := hf.ok
  refine ⟨fun w O μ vs hI hargs => ?_, ent_of hfn hname hbody⟩
  have hty2 : Nat.beq b.ty 2 = false := by rw [Nat.eq_of_beq_eq_true hty]; rfl
  have hF : FenceOk Fence.wide := .inl rfl
  -- all blocks are marked
  obtain ⟨fm, fi⟩ := frz_state (w' := w) hI (List.range H.length) (Nat.le_refl _) (fun _ _ => rfl) rfl rfl rfl
  rw [← HFof_frz] at fm fi
  have hlive0 : ∀ q, Live O μ (HFof (H.map frzB)) q → O q := by
    rintro q (hq | ⟨i, blk, h1, h2, _⟩)
    · exact hq
    · simp only [HFof, List.getElem?_map] at h1
      cases hx : H[i]? with
      | none => simp [hx] at h1
      | some c => simp only [hx, Option.map_some, Option.some.injEq] at h1; subst h1; simp [frzB] at h2
  have hsl : Slots w.heap.size fn.ntmps O w μ (HFof (H.map frzB)) { tmps := vs.toArray ++ Array.replicate (fn.ntmps - vs.toArray.size) undef, defers := [] } (argsT args 0) :=
    slots_enter (Nat.le_refl _) (by rw [hnt]; exact hle) (hargs.imp fun v x hx => hx.mono fm)
  refine (callsIn_wide (n := 0)).1 (callsIn_of_wp_marks hfn hbody trivial ?_)
  refine wpIn_seq (evCode_ok E hE hD K 0 fn.ntmps rm.pre0 O Fence.wide 0 w.heap.size hF (.inl rfl) R0 hc0 ⟨argsT args 0, H.map frzB⟩ .normal s1 hev0 _ w μ fi hsl _ fun a1 w1 μ1 g1 g2 g3 => ?_)
  refine wpIn_seq (evCode_ok E hE hD K 0 fn.ntmps rm.pre1 O Fence.wide 0 w.heap.size hF (.inl rfl) R1 hc1 s1 .normal s2 hev1 a1 w1 μ1 g1 g2 _ fun a2 w2 μ2 k1 k2 k3 => ?_)
  refine wpIn_seq (wpIn_seq (wpIn_region_list ?_))
  have hM2 := g3.trans k3
  have hb' : HFof s2.H id = some b := hb
  obtain ⟨es, clk, hE2, ⟨_, hborn⟩, hall⟩ := (k1.blk id b hb').map hmp hty2
  have hvm : a2.eval (.tmp rm.m) = .map (some (μ2 id)) := by
    have hx' : RepD w2 O μ2 (HFof s2.H) (a2.tmps.getD rm.m undef) (.mp id) := k2.slot rm.m _ hmid
    show a2.tmps.getD rm.m undef = _
    generalize a2.tmps.getD rm.m undef = v at hx'
    cases hx' with
    | mp _ _ _ _ => rfl
  obtain ⟨hm2, hlit, hnx, hok, hen⟩ := ho.lt
  obtain ⟨mt, hb21, hb22, hb23, kt, et, hmt⟩ := ho.b2
  refine list_value hF ho.a2.2.2 (by rw [ho.a2.2.1]; intro c h; cases h) (.map (some (μ2 id))) (w' := w2) (by simp only [execOp, ho.a2.2.1, hvm]; rfl) ?_
  rw [ho.a2.1]
  have hsA := k2.put (some rm.m2) (by simp [dstOk]; omega) (.map (some (μ2 id))) (.one (.mp id)) (RepD.mp id b hb' hmp)
  have hsz2 := k2.sz
  refine list_value hF hb23 (by rw [hb22]; intro c h; cases h) (.pointer (some ⟨w2.heap.size, 0, none⟩)) (w' := w2.alloc (.mapIter (some (μ2 id)) clk #[] clk)) (by
    simp only [execOp, hb22]
    refine exec_v ?_
    rw [put_eval _ _ _ (by omega)]
    simp [Instr.range, run_und hmt, MapKept.run_getObj_map hE2, newObj, go_sem, Result.andThen]
    rfl) ?_
  rw [hb21]
  have hnone : HFof s2.H s2.H.length = none := by simp [HFof]
  obtain ⟨am, ai⟩ := alloc_state (w' := w2.alloc (.mapIter (some (μ2 id)) clk #[] clk)) (n := s2.H.length) k1 hnone ⟨true, 0, 0, [], true, 2⟩ (by simp) (fun k hk => RowKit.Below.heap_alloc _ _ _ hk) rfl rfl rfl
  have hHeq : (fun x => if x = s2.H.length then some (⟨true, 0, 0, [], true, 2⟩ : Blk) else HFof s2.H x) = HFof (s2.H ++ [⟨true, 0, 0, [], true, 2⟩]) := by
    rw [HFof_al]; rfl
  have hnew : (w2.alloc (.mapIter (some (μ2 id)) clk #[] clk)).heap[w2.heap.size]? = some (.mapIter (some (μ2 id)) clk #[] clk) := Go.heap_alloc_new w2 _
  have ai := ai (by
    unfold BlkOk
    simp only [if_true]
    rw [if_pos (show Nat.beq 2 2 = true from rfl)]
    exact ⟨_, hnew, dull_iter _ _ _ _⟩)
  rw [hHeq] at am ai
  generalize hμ3 : (fun i => if i = s2.H.length then w2.heap.size else μ2 i) = μ3 at am ai
  have hidlt : id < s2.H.length := (List.getElem?_eq_some_iff.1 hb).1
  have hμ3n : μ3 s2.H.length = w2.heap.size := by rw [← hμ3]; simp
  have hsB : Slots w.heap.size fn.ntmps O (w2.alloc (.mapIter (some (μ2 id)) clk #[] clk)) μ3 (HFof (s2.H ++ [⟨true, 0, 0, [], true, 2⟩])) ((a2.put (some rm.m2) (.map (some (μ2 id)))).put (some rm.it) (.pointer (some ⟨w2.heap.size, 0, none⟩))) ((rm.it, .one (.ptr s2.H.length 0 0 0)) :: (rm.m2, .one (.mp id)) :: s2.T) := by
    refine (hsA.mono am).put (some rm.it) (by simp [dstOk]; omega) _ (.one (.ptr s2.H.length 0 0 0)) (RepD.ptr s2.H.length 0 0 0 ⟨true, 0, 0, [], true, 2⟩ _ _ (by simp [HFof]) (Nat.le_refl _) fun _ => ⟨hμ3n.symm, by simp⟩)
  have hnlr : ¬ Live O μ3 (HFof (s2.H ++ [⟨true, 0, 0, [], true, 2⟩])) w2.heap.size := by
    rintro (hq | ⟨i, blk, h1, h2, h3⟩)
    · have := k1.lt _ hq; omega
    · by_cases e : i = s2.H.length
      · subst e; simp [HFof] at h1; subst h1; simp at h2
      · have := ai.inj i s2.H.length blk _ h1 (by simp [HFof]; rfl) (by rw [h3, hμ3n])
        exact e this
  have hnlb : ¬ Live O μ3 (HFof (s2.H ++ [⟨true, 0, 0, [], true, 2⟩])) (μ2 id) := by
    have hid3 : HFof (s2.H ++ [⟨true, 0, 0, [], true, 2⟩]) id = some b := by simp only [HFof]; rw [List.getElem?_append_left hidlt]; exact hb
    have hμid : μ3 id = μ2 id := by rw [← hμ3]; simp only []; rw [if_neg (by omega)]
    rintro (hq | ⟨i, blk, h1, h2, h3⟩)
    · exact k1.disj id b hb' hq
    · have := ai.inj i id blk b h1 hid3 (by rw [h3, hμid])
      subst this; rw [hid3] at h1; cases h1; rw [hfz] at h2; cases h2
  have hMall := hM2.trans am
  refine wpIn_block (wpIn_loop_rounds (b.ch.length + 1) ?_)
  have hlenE : es.toList.length = b.ch.length := hall.length
  have hleft : leftP (es.toList.zip b.ch) (#[] : Array Nat).contains = es.toList.zip b.ch := by
    unfold leftP
    exact List.filter_eq_self.2 fun p _ => by simp
  have hsnd : (es.toList.zip b.ch).map (·.2) = b.ch := by
    have := List.map_snd_zip (l₁ := es.toList) (l₂ := b.ch) (by omega)
    exact this
  refine rm_loop (lo := w.heap.size) E hE hD K rm ho i3 i4 s2.H.length fi es clk (μ2 id) w2.heap.size b hsz hty hborn _ ss ?_ b.ch.length #[] ⟨(rm.it, .one (.ptr s2.H.length 0 0 0)) :: (rm.m2, .one (.mp id)) :: s2.T, s2.H ++ [⟨true, 0, 0, [], true, 2⟩]⟩ _ μ3 _ ss ⟨ai, hsB, hMall, ?_, hnew, ?_, hμ3n, hnlr, hnlb, hM2.keeps.size, ?_⟩ ?_ ?_ (fun x hx => hx)
  · -- behind the loop
    intro s hs a3 W μ4 h1 h2 h3
    show (if rm.b = rm.b then _ else _)
    rw [if_pos rfl]
    have hp := hpost s hs
    unfold rmPost at hp
    have fin : ∀ (ex : Ex) (s4 : St), (ex = .normal ∨ ex = .ret) → evCode E K 0 rm.post ⟨(rm.ok, .one (.p (.bool false))) :: (rm.nx, .tup [.one (.p (.bool false))]) :: s.T, s.H⟩ = some (ex, s4) →
        (match mapO (loadRes s4) rm.results with
          | some rs => match mapO (freezeV1 (HFof s4.H)) rs with
            | some ps => some (packP ps)
            | none => none
          | none => none) = some r → C.wpIn Fence.wide 0 P (bodyPostM Fence.wide 0 P fn (fun e w' => ∃ v μ', e = .returned v ∧ RepV w' O μ' (HFof (H.map frzB)) v (inj r) ∧ HInv w' O μ' (HFof (H.map frzB)) ∧ Mono O w μ (HFof H) w' μ' (HFof (H.map frzB)))) a3 W := by
      intro ex s4 hex hev4 hp4
      cases hm4 : mapO (loadRes s4) rm.results with
      | none => simp [hm4] at hp4
      | some rs4 =>
      simp only [hm4] at hp4
      cases hz4 : mapO (freezeV1 (HFof s4.H)) rs4 with
      | none => simp [hz4] at hp4
      | some ps4 =>
      simp only [hz4, Option.some.injEq] at hp4
      refine evCode_ok E hE hD K 0 fn.ntmps rm.post O Fence.wide 0 w.heap.size hF (.inl rfl) C hcC _ ex s4 hev4 a3 W μ4 h1 h2 _ fun a5 w5 μ5 m1 m2 m3 => ?_
      have hlv := leaves_marks (P := P) (O := O) (μ := μ5) (nt := fn.ntmps) (s := s4) (fn := fn) fi rm.results rs4 hres hm4 (fun e w' => ∃ v μ', e = .returned v ∧ RepV w' O μ' (HFof (H.map frzB)) v (inj r) ∧ HInv w' O μ' (HFof (H.map frzB)) ∧ Mono O w μ (HFof H) w' μ' (HFof (H.map frzB))) a5.tmps
        (fun us w' n1 n2 n3 => by
          have hblk : ∀ k, k < w.heap.size → w'.heap[k]? = w.heap[k]? := fun k hk => by
            by_cases hok : O k
            · exact n3.okeep k hok
            · exact n3.keeps.keep k hk fun hl => hok (hlive0 k hl)
          obtain ⟨gm, gi⟩ := grow_state (w' := w') fi n3.keeps.size hblk n3.os n3.tape n3.output
          refine ⟨_, μ, rfl, ?_, gi, fm.trans gm⟩
          have hpk := pack_rep n1 O (fun q hq => .inl hq) (fun id b hb => n1.disj id b hb) us rs4 ps4 n2 hz4
          rw [hp4] at hpk
          refine inj_of (fun v l hl => ?_) hpk
          rw [live_h0] at hl
          exact hl.anti fun q hq => hlive0 q hq)
        a5.defers w5 m1 m2 (h3.trans m3)
      rcases hex with rfl | rfl <;> exact hlv
    split at hp
    · rename_i s4 hev4; exact fin .normal s4 (.inl rfl) hev4 hp
    · rename_i s4 hev4; exact fin .ret s4 (.inr rfl) hev4 hp
    · simp at hp
  · exact (RowKit.Below.heap_alloc _ _ _ (k1.lt_size hb')).trans hE2
  · simp [itOk, getT_cons]
  · exact hall.imp fun x y hxy => hxy.mono am
  · rw [hleft, List.length_zip]; omega
  · rw [hleft, hsnd]; exact hfin

theorem rmapF_CH {P : Program} (E : Oracle) (hE : OracleOk P E) (hD : DrawOk P E) (K : Nat) {f : Nat} {rm : RM} (hf : RMFun P f rm) (args : List DV) (H : List Blk) (d : DV) (H' : List Blk) (hr : evRmapF E K rm args H = some (d, H')) : CH P f args H d H' ∧ Ent P f := by
  unfold evRmapF at hr
  cases hle : Nat.ble args.length rm.ntmps with
  | false => rw [hle] at hr; simp at hr
  | true =>
  rw [hle, cond_true] at hr
  have hle := ble_le hle
  split at hr
  · rename_i s1 hev0
    split at hr
    · rename_i s2 hev1
      split at hr
      · rename_i id hmid
        split at hr
        · rename_i b hb
          obtain ⟨hcond, hr⟩ := cond_or hr
          simp only [Bool.and_eq_true] at hcond
          obtain ⟨⟨⟨hmp, hfz⟩, hty⟩, hsz⟩ := hcond
          have hsz := Nat.eq_of_beq_eq_true hsz
          split at hr
          · rename_i ss hfin
            split at hr
            · rename_i r rs hpost
              obtain ⟨hsame, heq⟩ := cond_some hr
              simp only [Prod.mk.injEq] at heq; obtain ⟨rfl, rfl⟩ := heq
              refine rmapF_CH2 E hE hD K hf args H r hle hev0 hev1 hmid hb hmp hfz hty hsz hfin fun s hs => ?_
              obtain ⟨hlp, hgp⟩ := mapO_get hpost
              obtain ⟨j, hj⟩ := List.mem_iff_getElem?.1 hs
              have hjl : j < (r :: rs).length := by rw [← hlp]; exact (List.getElem?_eq_some_iff.1 hj).1
              obtain ⟨s', hs', hp⟩ := hgp j (r :: rs)[j] (List.getElem?_eq_getElem hjl)
              rw [hj] at hs'; cases hs'
              have hrr : (r :: rs)[j] = r := by
                rcases List.mem_cons.1 (List.getElem_mem hjl) with h | h
                · exact h
                · exact sameAll_eq rs hsame _ h
              rw [hrr] at hp
              exact hp
            · simp at hr
          · simp at hr
        · simp at hr
      · simp at hr
    · simp at hr
  · simp at hr

end Go.Ev
