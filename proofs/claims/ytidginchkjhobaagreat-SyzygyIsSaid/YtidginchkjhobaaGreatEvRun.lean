/- The equations by which simp runs the interpreter over symbolic values (written by gen_evrun.py). -/
import Derived.Test.YtidginchkjhobaaGreatEvSym
namespace Go.Ev

/-- The rest of the check of a region's order. -/
def footsOk' (all rest : List Foot) : Bool := rest.all fun f => (f.wr.isEmpty && Nat.beq f.lo f.hi) || all.all fun g => footOk f g

/-- A loop that begins with what it keeps. -/
def loopK (E : Oracle) (K b : Nat) (ks : List Nat) (c : XCode) : Nat → St → Option (Ex × St)
  | 0, _ => none
  | k + 1, s => match evCode E K b c s with
    | some (.normal, s) => loopK E K b ks c k ⟨keepT s.T ks, s.H⟩
    | r => r

theorem loopN_K (E : Oracle) (K b : Nat) (ks : List Nat) (c : XCode) : ∀ (k : Nat) (s : St), loopN (fun s => evCode E K b (.keep ks c) s) k s = loopK E K b ks c k ⟨keepT s.T ks, s.H⟩
  | 0, _ => rfl
  | k + 1, s => by
    have e : evCode E K b (.keep ks c) s = evCode E K b c ⟨keepT s.T ks, s.H⟩ := by simp only [evCode, keepK_eq]
    have ih := loopN_K E K b ks c k
    simp only [loopN, loopK]
    rw [e]
    rcases evCode E K b c ⟨keepT s.T ks, s.H⟩ with _ | ⟨_ | _ | _, s1⟩
    · rfl
    · exact ih s1
    · rfl
    · rfl
theorem loop_loopK (E : Oracle) (K b : Nat) (s : St) (ks : List Nat) (c : XCode) : evCode E K b (.loop (.keep ks c)) s = loopK E K b ks c K ⟨keepT s.T ks, s.H⟩ := by
  simp only [evCode]; exact loopN_K E K b ks c K s

def finP (rs : List (Nat × Option (Bool × Nat))) (s : St) : Option PV :=
  match mapO (loadRes s) rs with
  | some ds => (match mapO (freezeV1 (HFof s.H)) ds with
    | some ps => some (packP ps)
    | none => none)
  | none => none
theorem pureF_eq (E : Oracle) (K nt : Nat) (rs : List (Nat × Option (Bool × Nat))) (c : XCode) (args : List PV) : evPureF E K ⟨nt, rs, c⟩ args = (bif Nat.ble (args.map inj).length nt then (match evCode E K 0 c ⟨argsT (args.map inj) 0, []⟩ with | some (.normal, s) => finP rs s | some (.ret, s) => finP rs s | _ => none) else none) := by
  unfold evPureF evBody
  rw [argsK_eq]
  cases Nat.ble (args.map inj).length nt with
  | false => rfl
  | true =>
    simp only [cond_true]
    rcases evCode E K 0 c ⟨argsT (args.map inj) 0, []⟩ with _ | ⟨_ | _ | _, s⟩
    · rfl
    · simp only [finP]; cases mapO (loadRes s) rs <;> rfl
    · rfl
    · simp only [finP]; cases mapO (loadRes s) rs <;> rfl
/-- Operations that write and make nothing. -/
def plainB : List Foot → Bool
  | [] => true
  | f :: fs => f.wr.isEmpty && Nat.beq f.lo f.hi && plainB fs
theorem plainB_feet : ∀ {fs : List Foot}, plainB fs = true → PlainFeet fs
  | [], _ => trivial
  | f :: fs, h => by
    simp only [plainB, Bool.and_eq_true, List.isEmpty_iff] at h
    exact ⟨⟨h.1.1, Nat.eq_of_beq_eq_true h.1.2⟩, plainB_feet h.2⟩
theorem evDraw_if (E : Oracle) (b : Nat) (ops : List XOper) (s : St) : evDraw E b ops s = (match evOpsD E b 0 ops s with | some (s, fs) => (if plainB fs = true then some s else (if footsOk fs = true then some s else none)) | none => none) := by
  unfold evDraw
  rcases evOpsD E b 0 ops s with _ | ⟨s1, fs⟩
  · rfl
  · show (bif footsOk fs then some s1 else none) = (if plainB fs = true then some s1 else (if footsOk fs = true then some s1 else none))
    by_cases hp : plainB fs = true
    · rw [if_pos hp, feet_ok (plainB_feet hp), cond_true]
    · rw [if_neg hp]; cases footsOk fs <;> rfl
theorem frzL0 (n : Nat) (h : HF) (l : PL) : freezeL n h (.p l) = some l := by cases n <;> rfl
theorem idsL0 (n : Nat) (h : HF) (l : PL) : idsL n h (.p l) = [] := by cases n <;> rfl
theorem app_nil (base e sz by_ : Nat) (h : HF) (n : Nat) (y : DL) : opAppend base e sz by_ h n [.one (.p .nilS), .one y] = (match chunksOf h y with | some (new, ids) => (bif new.all (fun c => Nat.beq c.length sz) then appendNil e sz by_ n new ids else none) | none => none) := by
  simp only [opAppend]; rfl
theorem app_own (base e sz by_ : Nat) (h : HF) (n id ver len : Nat) (y : DL) : opAppend base e sz by_ h n [.one (.own id ver 0 len), .one y] = (match chunksOf h y with | some (new, ids) => (bif new.all (fun c => Nat.beq c.length sz) then (match h id with | some b => (bif Nat.beq b.ch.length len then appendOwn base e sz by_ id ver len b new ids else appendIn base e sz id ver len b new ids) | none => none) else none) | none => none) := by
  simp only [opAppend]; rfl

theorem mapO_two (α β : Type) (f : α → Option β) (x : α) (xs : List α) : mapO f (x :: xs) = (match f x with | none => none | some y => (match mapO f xs with | none => none | some ys => some (y :: ys))) := by
  cases h : f x with
  | none => simp only [mapO, h]
  | some y => cases h2 : mapO f xs <;> simp only [mapO, h, h2]

set_option maxRecDepth 100000 in
theorem EVS : (∀ (E : Oracle) (K b : Nat) (s : St), evCode E K b .skip s = (some (.normal, s))) ∧
    (∀ (E : Oracle) (K b : Nat) (s : St) (ops : List XOper), evCode E K b (.region false ops) s = (match evOps E b ops s with | some s => some (.normal, s) | none => none)) ∧
    (∀ (E : Oracle) (K b : Nat) (s : St) (ops : List XOper), evCode E K b (.region true ops) s = (match evDraw E b ops s with | some s => some (.normal, s) | none => none)) ∧
    (∀ (E : Oracle) (K b : Nat) (s : St) (p u : List XOper), evCode E K b (.regionS p u) s = (match evDrawS E b p u s with | some s => some (.normal, s) | none => none)) ∧
    (∀ (E : Oracle) (K b : Nat) (s : St) (x y : XCode), evCode E K b (.seq x y) s = (match evCode E K b x s with | some (.normal, s) => evCode E K b y s | r => r)) ∧
    (∀ (E : Oracle) (K b : Nat) (s : St) (c : XOpd) (x y : XCode), evCode E K b (.cond c x y) s = (match c.eval s.T with | some (.one (.p (.bool true))) => evCode E K b x s | some (.one (.p (.bool false))) => evCode E K b y s | _ => none)) ∧
    (∀ (E : Oracle) (K b : Nat) (s : St) (i : Nat) (x : XCode), evCode E K b (.block i x) s = (match evCode E K b x s with | some (.exit j, s) => bif j == i then some (.normal, s) else some (.exit j, s) | r => r)) ∧
    (∀ (E : Oracle) (K b : Nat) (s : St) (ks : List Nat) (x : XCode), evCode E K b (.loop (.keep ks x)) s = (loopK E K b ks x K ⟨keepT s.T ks, s.H⟩)) ∧
    (∀ (E : Oracle) (K b : Nat) (s : St) (ks : List Nat) (x : XCode), evCode E K b (.keep ks x) s = (evCode E K b x ⟨keepT s.T ks, s.H⟩)) ∧
    (∀ (E : Oracle) (K b : Nat) (s : St) (x : XCode), evCode E K b (.scope x) s = (evCode E K b x s)) ∧
    (∀ (E : Oracle) (K b : Nat) (s : St) (i : Nat), evCode E K b (.exit i) s = (some (.exit i, s))) ∧
    (∀ (E : Oracle) (K b : Nat) (s : St), evCode E K b .ret s = (some (.ret, s))) ∧
    (∀ (E : Oracle) (b : Nat) (s : St), evOps E b [] s = (some s)) ∧
    (∀ (E : Oracle) (b : Nat) (s : St) (o : XOper) (os : List XOper), evOps E b (o :: os) s = (match evOper E b true o s with | some (s, _, _) => evOps E b os s | none => none)) ∧
    (∀ (E : Oracle) (b : Nat) (hp : Bool) (s : St) (dst : Option Nat) (op : XOp) (args : List XOpd) (g : Option (Nat × Bool)) (af : List Nat), evOper E b hp ⟨dst, op, args, g, af⟩ s = (match guardOk s.T g with | none => none | some false => some (⟨putT s.T dst (.tup []), s.H⟩, [], []) | some true => (match mapO (XOpd.eval s.T) args with | none => none | some vs => bif hp && isHeapOp E op vs then heapCall E ⟨dst, op, args, g, af⟩ vs s else (match evOp E b op vs (HFof s.H) s.H.length with | some r => some (⟨putT s.T dst r.val, addAl (applyWr s.H r.wr) r.al⟩, r.rd, r.wr.map (·.1)) | none => none)))) ∧
    (∀ (T : List (Nat × DV)), guardOk T none = (some true)) ∧
    (∀ (T : List (Nat × DV)) (t : Nat) (w : Bool), guardOk T (some (t, w)) = (match getT T t with | some (.one (.p (.bool b))) => some (b == w) | some (.tup []) => some false | _ => none)) ∧
    (∀ (α β : Type) (f : α → Option β), mapO f [] = (some [])) ∧
    (∀ (α β : Type) (f : α → Option β) (x : α) (xs : List α), mapO f (x :: xs) = (match f x with | none => none | some y => (match mapO f xs with | none => none | some ys => some (y :: ys)))) ∧
    (∀ (T : List (Nat × DV)) (n : Nat), XOpd.eval T (.t n) = (getT T n)) ∧
    (∀ (T : List (Nat × DV)) (v : PV), XOpd.eval T (.c v) = (some (inj v))) ∧
    (∀ (l : PL), inj (.one l) = (.one (.p l))) ∧
    (∀ (cs : List PL), inj (.agg cs) = (.agg (cs.map .p))) ∧
    (∀ (vs : List PV), inj (.tup vs) = (.tup (vs.map inj1))) ∧
    (∀ (l : PL), inj1 (.one l) = (.one (.p l))) ∧
    (∀ (cs : List PL), inj1 (.agg cs) = (.agg (cs.map .p))) ∧
    (∀ (t : Nat) (v : DV) (T : List (Nat × DV)) (n : Nat), getT ((t, v) :: T) n = (if t = n then some v else getT T n)) ∧
    (∀ (T : List (Nat × DV)), keepT T [] = ([])) ∧
    (∀ (T : List (Nat × DV)) (k : Nat) (ks : List Nat), keepT T (k :: ks) = (match getT T k with | some v => (k, v) :: keepT T ks | none => keepT T ks)) ∧
    (∀ (T : List (Nat × DV)) (d : Nat) (v : DV), putT T (some d) v = ((d, v) :: T)) ∧
    (∀ (T : List (Nat × DV)) (v : DV), putT T none v = (T)) ∧
    (∀ (H : List Blk), applyWr H [] = (H)) ∧
    (∀ (H : List Blk) (i : Nat) (x : Blk) (ws : List (Nat × Blk)), applyWr H ((i, x) :: ws) = (applyWr (H.set i x) ws)) ∧
    (∀ (H : List Blk), addAl H [] = (H)) ∧
    (∀ (H : List Blk) (x : Blk) (xs : List Blk), addAl H (x :: xs) = (H ++ x :: xs)) ∧
    (∀ (H : List Blk) (i : Nat), HFof H i = (H[i]?)) ∧
    (∀ (E : Oracle) (b : Nat)  (vs : List DV) (h : HF) (n : Nat), evOp E b (.move) vs h n = (opMove vs)) ∧
    (∀ (E : Oracle)  (vs : List DV), isHeapOp E (.move) vs = (false)) ∧
    (∀ (E : Oracle) , isHeapCall E (.move) = (false)) ∧
    (∀ (E : Oracle) (b : Nat)  (vs : List DV) (h : HF) (n : Nat), evOp E b (.nilCheck) vs h n = (opNilCheck vs)) ∧
    (∀ (E : Oracle)  (vs : List DV), isHeapOp E (.nilCheck) vs = (false)) ∧
    (∀ (E : Oracle) , isHeapCall E (.nilCheck) = (false)) ∧
    (∀ (E : Oracle) (b : Nat)  (vs : List DV) (h : HF) (n : Nat), evOp E b (.pick) vs h n = (opPick vs)) ∧
    (∀ (E : Oracle)  (vs : List DV), isHeapOp E (.pick) vs = (false)) ∧
    (∀ (E : Oracle) , isHeapCall E (.pick) = (false)) ∧
    (∀ (E : Oracle) (b : Nat) (t : Nat) (vs : List DV) (h : HF) (n : Nat), evOp E b (.box t) vs h n = (opBox t n vs)) ∧
    (∀ (E : Oracle) (t : Nat) (vs : List DV), isHeapOp E (.box t) vs = (false)) ∧
    (∀ (E : Oracle) (t : Nat), isHeapCall E (.box t) = (false)) ∧
    (∀ (E : Oracle) (b : Nat) (t : Nat) (z : List PL) (vs : List DV) (h : HF) (n : Nat), evOp E b (.alloc t z) vs h n = (opAlloc t z n vs)) ∧
    (∀ (E : Oracle) (t : Nat) (z : List PL) (vs : List DV), isHeapOp E (.alloc t z) vs = (false)) ∧
    (∀ (E : Oracle) (t : Nat) (z : List PL), isHeapCall E (.alloc t z) = (false)) ∧
    (∀ (E : Oracle) (b : Nat) (z : List PL) (pl : List (Nat × Nat)) (vs : List DV) (h : HF) (n : Nat), evOp E b (.build z pl) vs h n = (opBuild z pl vs)) ∧
    (∀ (E : Oracle) (z : List PL) (pl : List (Nat × Nat)) (vs : List DV), isHeapOp E (.build z pl) vs = (false)) ∧
    (∀ (E : Oracle) (z : List PL) (pl : List (Nat × Nat)), isHeapCall E (.build z pl) = (false)) ∧
    (∀ (E : Oracle) (b : Nat) (e : Nat) (z : List PL) (m : Nat) (pl : List Nat) (vs : List DV) (h : HF) (n : Nat), evOp E b (.buildSlice e z m pl) vs h n = (opBuildSlice e z m pl n vs)) ∧
    (∀ (E : Oracle) (e : Nat) (z : List PL) (m : Nat) (pl : List Nat) (vs : List DV), isHeapOp E (.buildSlice e z m pl) vs = (false)) ∧
    (∀ (E : Oracle) (e : Nat) (z : List PL) (m : Nat) (pl : List Nat), isHeapCall E (.buildSlice e z m pl) = (false)) ∧
    (∀ (E : Oracle) (b : Nat) (a : Bool) (m : Nat) (vs : List DV) (h : HF) (n : Nat), evOp E b (.load a m) vs h n = (opLoad a m h vs)) ∧
    (∀ (E : Oracle) (a : Bool) (m : Nat) (vs : List DV), isHeapOp E (.load a m) vs = (false)) ∧
    (∀ (E : Oracle) (a : Bool) (m : Nat), isHeapCall E (.load a m) = (false)) ∧
    (∀ (E : Oracle) (b : Nat) (m : Nat) (vs : List DV) (h : HF) (n : Nat), evOp E b (.store m) vs h n = (opStore b m h vs)) ∧
    (∀ (E : Oracle) (m : Nat) (vs : List DV), isHeapOp E (.store m) vs = (false)) ∧
    (∀ (E : Oracle) (m : Nat), isHeapCall E (.store m) = (false)) ∧
    (∀ (E : Oracle) (b : Nat) (o : BinOp) (vs : List DV) (h : HF) (n : Nat), evOp E b (.bin o) vs h n = (opBin o vs)) ∧
    (∀ (E : Oracle) (o : BinOp) (vs : List DV), isHeapOp E (.bin o) vs = (false)) ∧
    (∀ (E : Oracle) (o : BinOp), isHeapCall E (.bin o) = (false)) ∧
    (∀ (E : Oracle) (b : Nat) (q : Bool) (vs : List DV) (h : HF) (n : Nat), evOp E b (.binB q) vs h n = (opBinB q vs)) ∧
    (∀ (E : Oracle) (q : Bool) (vs : List DV), isHeapOp E (.binB q) vs = (false)) ∧
    (∀ (E : Oracle) (q : Bool), isHeapCall E (.binB q) = (false)) ∧
    (∀ (E : Oracle) (b : Nat) (q : Bool) (vs : List DV) (h : HF) (n : Nat), evOp E b (.binNil q) vs h n = (opBinNil q vs)) ∧
    (∀ (E : Oracle) (q : Bool) (vs : List DV), isHeapOp E (.binNil q) vs = (false)) ∧
    (∀ (E : Oracle) (q : Bool), isHeapCall E (.binNil q) = (false)) ∧
    (∀ (E : Oracle) (b : Nat) (q : Bool) (k : IntKind) (m : Nat) (vs : List DV) (h : HF) (n : Nat), evOp E b (.binAgg q k m) vs h n = (opBinAgg q k m vs)) ∧
    (∀ (E : Oracle) (q : Bool) (k : IntKind) (m : Nat) (vs : List DV), isHeapOp E (.binAgg q k m) vs = (false)) ∧
    (∀ (E : Oracle) (q : Bool) (k : IntKind) (m : Nat), isHeapCall E (.binAgg q k m) = (false)) ∧
    (∀ (E : Oracle) (b : Nat) (o : UnOp) (vs : List DV) (h : HF) (n : Nat), evOp E b (.un o) vs h n = (opUn o vs)) ∧
    (∀ (E : Oracle) (o : UnOp) (vs : List DV), isHeapOp E (.un o) vs = (false)) ∧
    (∀ (E : Oracle) (o : UnOp), isHeapCall E (.un o) = (false)) ∧
    (∀ (E : Oracle) (b : Nat) (k : IntKind) (vs : List DV) (h : HF) (n : Nat), evOp E b (.conv k) vs h n = (opConv k vs)) ∧
    (∀ (E : Oracle) (k : IntKind) (vs : List DV), isHeapOp E (.conv k) vs = (false)) ∧
    (∀ (E : Oracle) (k : IntKind), isHeapCall E (.conv k) = (false)) ∧
    (∀ (E : Oracle) (b : Nat) (m : Nat) (vs : List DV) (h : HF) (n : Nat), evOp E b (.fieldAddr m) vs h n = (opFieldAddr m vs)) ∧
    (∀ (E : Oracle) (m : Nat) (vs : List DV), isHeapOp E (.fieldAddr m) vs = (false)) ∧
    (∀ (E : Oracle) (m : Nat), isHeapCall E (.fieldAddr m) = (false)) ∧
    (∀ (E : Oracle) (b : Nat) (m : Nat) (vs : List DV) (h : HF) (n : Nat), evOp E b (.indexS m) vs h n = (opIndexS m h vs)) ∧
    (∀ (E : Oracle) (m : Nat) (vs : List DV), isHeapOp E (.indexS m) vs = (false)) ∧
    (∀ (E : Oracle) (m : Nat), isHeapCall E (.indexS m) = (false)) ∧
    (∀ (E : Oracle) (b : Nat) (m p : Nat) (vs : List DV) (h : HF) (n : Nat), evOp E b (.indexA m p) vs h n = (opIndexA m p vs)) ∧
    (∀ (E : Oracle) (m p : Nat) (vs : List DV), isHeapOp E (.indexA m p) vs = (false)) ∧
    (∀ (E : Oracle) (m p : Nat), isHeapCall E (.indexA m p) = (false)) ∧
    (∀ (E : Oracle) (b : Nat) (m : Nat) (a : Bool) (p : Nat) (vs : List DV) (h : HF) (n : Nat), evOp E b (.indexV m a p) vs h n = (opIndexV m a p vs)) ∧
    (∀ (E : Oracle) (m : Nat) (a : Bool) (p : Nat) (vs : List DV), isHeapOp E (.indexV m a p) vs = (false)) ∧
    (∀ (E : Oracle) (m : Nat) (a : Bool) (p : Nat), isHeapCall E (.indexV m a p) = (false)) ∧
    (∀ (E : Oracle) (b : Nat) (a : Bool) (m p : Nat) (vs : List DV) (h : HF) (n : Nat), evOp E b (.field a m p) vs h n = (opField a m p vs)) ∧
    (∀ (E : Oracle) (a : Bool) (m p : Nat) (vs : List DV), isHeapOp E (.field a m p) vs = (false)) ∧
    (∀ (E : Oracle) (a : Bool) (m p : Nat), isHeapCall E (.field a m p) = (false)) ∧
    (∀ (E : Oracle) (b : Nat) (m : Nat) (lo hi : Bool) (vs : List DV) (h : HF) (n : Nat), evOp E b (.slice m lo hi) vs h n = (opSlice m lo hi h vs)) ∧
    (∀ (E : Oracle) (m : Nat) (lo hi : Bool) (vs : List DV), isHeapOp E (.slice m lo hi) vs = (false)) ∧
    (∀ (E : Oracle) (m : Nat) (lo hi : Bool), isHeapCall E (.slice m lo hi) = (false)) ∧
    (∀ (E : Oracle) (b : Nat) (m : Nat) (vs : List DV) (h : HF) (n : Nat), evOp E b (.extract m) vs h n = (opExtract m vs)) ∧
    (∀ (E : Oracle) (m : Nat) (vs : List DV), isHeapOp E (.extract m) vs = (false)) ∧
    (∀ (E : Oracle) (m : Nat), isHeapCall E (.extract m) = (false)) ∧
    (∀ (E : Oracle) (b : Nat)  (vs : List DV) (h : HF) (n : Nat), evOp E b (.len) vs h n = (opLen vs)) ∧
    (∀ (E : Oracle)  (vs : List DV), isHeapOp E (.len) vs = (false)) ∧
    (∀ (E : Oracle) , isHeapCall E (.len) = (false)) ∧
    (∀ (E : Oracle) (b : Nat) (m : Nat) (vs : List DV) (h : HF) (n : Nat), evOp E b (.lenA m) vs h n = (opLenA m vs)) ∧
    (∀ (E : Oracle) (m : Nat) (vs : List DV), isHeapOp E (.lenA m) vs = (false)) ∧
    (∀ (E : Oracle) (m : Nat), isHeapCall E (.lenA m) = (false)) ∧
    (∀ (E : Oracle) (b : Nat) (e m p : Nat) (vs : List DV) (h : HF) (n : Nat), evOp E b (.append e m p) vs h n = (opAppend b e m p h n vs)) ∧
    (∀ (E : Oracle) (e m p : Nat) (vs : List DV), isHeapOp E (.append e m p) vs = (false)) ∧
    (∀ (E : Oracle) (e m p : Nat), isHeapCall E (.append e m p) = (false)) ∧
    (∀ (E : Oracle) (b : Nat) (e : Nat) (z : List PL) (m : Nat) (vs : List DV) (h : HF) (n : Nat), evOp E b (.makeSlice e z m) vs h n = (opMakeSlice e z m n vs)) ∧
    (∀ (E : Oracle) (e : Nat) (z : List PL) (m : Nat) (vs : List DV), isHeapOp E (.makeSlice e z m) vs = (false)) ∧
    (∀ (E : Oracle) (e : Nat) (z : List PL) (m : Nat), isHeapCall E (.makeSlice e z m) = (false)) ∧
    (∀ (E : Oracle) (b : Nat)  (vs : List DV) (h : HF) (n : Nat), evOp E b (.max) vs h n = (opMax ltF vs)) ∧
    (∀ (E : Oracle)  (vs : List DV), isHeapOp E (.max) vs = (false)) ∧
    (∀ (E : Oracle) , isHeapCall E (.max) = (false)) ∧
    (∀ (E : Oracle) (b : Nat)  (vs : List DV) (h : HF) (n : Nat), evOp E b (.min) vs h n = (opMax (fun a b => ltF b a) vs)) ∧
    (∀ (E : Oracle)  (vs : List DV), isHeapOp E (.min) vs = (false)) ∧
    (∀ (E : Oracle) , isHeapCall E (.min) = (false)) ∧
    (∀ (E : Oracle) (b : Nat) (m : Nat) (a : Bool) (vs : List DV) (h : HF) (n : Nat), evOp E b (.makeMap m a) vs h n = (opMakeMap m a n vs)) ∧
    (∀ (E : Oracle) (m : Nat) (a : Bool) (vs : List DV), isHeapOp E (.makeMap m a) vs = (false)) ∧
    (∀ (E : Oracle) (m : Nat) (a : Bool), isHeapCall E (.makeMap m a) = (false)) ∧
    (∀ (E : Oracle) (b : Nat) (m : Nat) (k : IntKind) (a : Bool) (z : List PL) (o : Bool) (vs : List DV) (h : HF) (n : Nat), evOp E b (.lookup m k a z o) vs h n = (opLookup m k a z o h vs)) ∧
    (∀ (E : Oracle) (m : Nat) (k : IntKind) (a : Bool) (z : List PL) (o : Bool) (vs : List DV), isHeapOp E (.lookup m k a z o) vs = (false)) ∧
    (∀ (E : Oracle) (m : Nat) (k : IntKind) (a : Bool) (z : List PL) (o : Bool), isHeapCall E (.lookup m k a z o) = (false)) ∧
    (∀ (E : Oracle) (b : Nat) (m : Nat) (k : IntKind) (a : Bool) (p : Nat) (vs : List DV) (h : HF) (n : Nat), evOp E b (.mapUpdate m k a p) vs h n = (opMapUpdate m k a p h vs)) ∧
    (∀ (E : Oracle) (m : Nat) (k : IntKind) (a : Bool) (p : Nat) (vs : List DV), isHeapOp E (.mapUpdate m k a p) vs = (false)) ∧
    (∀ (E : Oracle) (m : Nat) (k : IntKind) (a : Bool) (p : Nat), isHeapCall E (.mapUpdate m k a p) = (false)) ∧
    (∀ (E : Oracle) (b : Nat)  (vs : List DV) (h : HF) (n : Nat), evOp E b (.lenMap) vs h n = (opLenMap h vs)) ∧
    (∀ (E : Oracle)  (vs : List DV), isHeapOp E (.lenMap) vs = (false)) ∧
    (∀ (E : Oracle) , isHeapCall E (.lenMap) = (false)) ∧
    (∀ (E : Oracle) (b : Nat) (f : Nat) (vs : List DV) (h : HF) (n : Nat), evOp E b (.makeFunc f) vs h n = (opMakeFunc f vs)) ∧
    (∀ (E : Oracle) (f : Nat) (vs : List DV), isHeapOp E (.makeFunc f) vs = (false)) ∧
    (∀ (E : Oracle) (f : Nat), isHeapCall E (.makeFunc f) = (false)) ∧
    (∀ (E : Oracle) (b : Nat) (z : List PL) (vs : List DV) (h : HF) (n : Nat), evOp E b (.clear z) vs h n = (opClear b z h vs)) ∧
    (∀ (E : Oracle) (z : List PL) (vs : List DV), isHeapOp E (.clear z) vs = (false)) ∧
    (∀ (E : Oracle) (z : List PL), isHeapCall E (.clear z) = (false)) ∧
    (∀ (E : Oracle) (b : Nat)  (vs : List DV) (h : HF) (n : Nat), evOp E b (.slice3) vs h n = (opSlice3 vs)) ∧
    (∀ (E : Oracle)  (vs : List DV), isHeapOp E (.slice3) vs = (false)) ∧
    (∀ (E : Oracle) , isHeapCall E (.slice3) = (false)) ∧
    (∀ (E : Oracle) (b : Nat) (f : Nat) (vs : List DV) (h : HF) (n : Nat), evOp E b (.call f) vs h n = (evPure E h f vs)) ∧
    (∀ (E : Oracle) (b : Nat)  (vs : List DV) (h : HF) (n : Nat), evOp E b (.callV) vs h n = (opCallV E h vs)) ∧
    (∀ (E : Oracle) (f : Nat) (vs : List DV), isHeapOp E (.call f) vs = (isHeapF E f)) ∧
    (∀ (E : Oracle) (f : Nat), isHeapCall E (.call f) = (isHeapF E f)) ∧
    (∀ (x : DV), opMove [x] = (some ⟨x, [], [], []⟩)) ∧
    (∀ (c : Bool) (x y : DV), opPick [.one (.p (.bool c)), x, y] = (some ⟨bif c then x else y, [], [], []⟩)) ∧
    (∀ (t n : Nat) (l : DL), opBox t n [.one l] = (some ⟨.one (.ptr n 0 0 0), [⟨false, 0, 1, [[l]], false, t⟩], [], []⟩)) ∧
    (∀ (t n : Nat) (cs : List DL), opBox t n [.agg cs] = (some ⟨.one (.ptr n 0 0 0), [⟨false, 0, cs.length, [cs], false, t⟩], [], []⟩)) ∧
    (∀ (t : Nat) (z : List PL) (n : Nat), opAlloc t z n [] = (some ⟨.one (.ptr n 0 0 0), [⟨false, 0, z.length, [z.map .p], false, t⟩], [], []⟩)) ∧
    (∀ (o : BinOp) (k k2 : IntKind) (x y : Int), opBin o [.one (.p (.int k x)), .one (.p (.int k2 y))] = (match evBinI o k k2 x y with | some d => some ⟨.one d, [], [], []⟩ | none => none)) ∧
    (∀ (k : IntKind) (x y : Int), evBinI .add k k x y = (dInt k (wrapF k (x + y)))) ∧
    (∀ (k : IntKind) (x y : Int), evBinI .sub k k x y = (dInt k (wrapF k (x - y)))) ∧
    (∀ (k : IntKind) (x y : Int), evBinI .mul k k x y = (dInt k (wrapF k (x * y)))) ∧
    (∀ (k : IntKind) (x y : Int), evBinI .eql k k x y = (dBool (eqF x y))) ∧
    (∀ (k : IntKind) (x y : Int), evBinI .neq k k x y = (dBool (!eqF x y))) ∧
    (∀ (k : IntKind) (x y : Int), evBinI .lss k k x y = (dBool (ltF x y))) ∧
    (∀ (k : IntKind) (x y : Int), evBinI .leq k k x y = (dBool (leF x y))) ∧
    (∀ (k : IntKind) (x y : Int), evBinI .gtr k k x y = (dBool (ltF y x))) ∧
    (∀ (k : IntKind) (x y : Int), evBinI .geq k k x y = (dBool (leF y x))) ∧
    (∀ (k : IntKind) (x y : Int), evBinI .quo k k x y = (binQuo k x y)) ∧
    (∀ (k : IntKind) (x y : Int), evBinI .rem k k x y = (binRem k x y)) ∧
    (∀ (k : IntKind) (x y : Int), evBinI .or k k x y = (dInt k (signF k (Nat.lor (resF k x) (resF k y))))) ∧
    (∀ (k : IntKind) (x y : Int), evBinI .and k k x y = (dInt k (signF k (Nat.land (resF k x) (resF k y))))) ∧
    (∀ (k k2 : IntKind) (x y : Int), evBinI .shl k k2 x y = (binShl k x y)) ∧
    (∀ (k k2 : IntKind) (x y : Int), evBinI .shr k k2 x y = (binShr k x y)) ∧
    (∀ (k : IntKind) (n : Int), dInt k n = (some (.p (.int k n)))) ∧
    (∀ (c : Bool), dBool c = (some (.p (.bool c)))) ∧
    (∀ (k k2 : IntKind) (n : Int), opConv k [.one (.p (.int k2 n))] = (some ⟨.one (.p (.int k (wrapF k n))), [], [], []⟩)) ∧
    (∀ (k : IntKind) (n : Int), opUn .neg [.one (.p (.int k n))] = (some ⟨.one (.p (.int k (wrapF k (0 - n)))), [], [], []⟩)) ∧
    (∀ (c : Bool), opUn .not [.one (.p (.bool c))] = (some ⟨.one (.p (.bool (!c))), [], [], []⟩)) ∧
    (∀ (q x y : Bool), opBinB q [.one (.p (.bool x)), .one (.p (.bool y))] = (some ⟨.one (.p (.bool ((x == y) != q))), [], [], []⟩)) ∧
    (opLen [.one (.p .nilS)] = (some ⟨.one (.p (.int .i64 (.ofNat 0))), [], [], []⟩)) ∧
    (∀ (es : List (List PL)), opLen [.one (.p (.lst es))] = (some ⟨.one (.p (.int .i64 (.ofNat es.length))), [], [], []⟩)) ∧
    (∀ (i v o l : Nat), opLen [.one (.own i v o l)] = (some ⟨.one (.p (.int .i64 (.ofNat l))), [], [], []⟩)) ∧
    (∀ (m : Nat) (cs : List PL), opFieldAddr m [.one (.p (.ref cs))] = (bif Nat.ble m cs.length then some ⟨.one (.p (.ref (cs.drop m))), [], [], []⟩ else none)) ∧
    (∀ (m i v j o : Nat), opFieldAddr m [.one (.ptr i v j o)] = (some ⟨.one (.ptr i v j (o + m)), [], [], []⟩)) ∧
    (∀ (m : Nat) (vs : List DV), opExtract m [.tup vs] = (match vs[m]? with | some v => some ⟨v, [], [], []⟩ | none => none)) ∧
    (∀ (sz : Nat) (h : HF) (es : List (List PL)) (k : IntKind) (i : Nat), opIndexS sz h [.one (.p (.lst es)), .one (.p (.int k (.ofNat i)))] = (match es[i]? with | some c => (bif Nat.beq c.length sz then some ⟨.one (.p (.ref c)), [], [], []⟩ else none) | none => none)) ∧
    (∀ (sz : Nat) (h : HF) (id ver off len : Nat) (k : IntKind) (i : Nat), opIndexS sz h [.one (.own id ver off len), .one (.p (.int k (.ofNat i)))] = (match h id with | some b => (bif Nat.beq b.sz sz && Nat.blt i len then some ⟨.one (.ptr id ver (off + i) 0), [], [], [id]⟩ else none) | none => none)) ∧
    (∀ (m p : Nat) (cs : List PL) (k : IntKind) (i : Nat), opIndexA m p [.one (.p (.ref cs)), .one (.p (.int k (.ofNat i)))] = (bif Nat.blt i m && Nat.ble (i * p) cs.length then some ⟨.one (.p (.ref (cs.drop (i * p)))), [], [], []⟩ else none)) ∧
    (∀ (m p id ver j o : Nat) (k : IntKind) (i : Nat), opIndexA m p [.one (.ptr id ver j o), .one (.p (.int k (.ofNat i)))] = (bif Nat.blt i m then some ⟨.one (.ptr id ver j (o + i * p)), [], [], []⟩ else none)) ∧
    (∀ (a : Bool) (m : Nat) (h : HF) (cs : List PL), opLoad a m h [.one (.p (.ref cs))] = (match headV a m (cs.map .p) with | some v => some ⟨v, [], [], []⟩ | none => none)) ∧
    (∀ (a : Bool) (m : Nat) (h : HF) (id ver i off : Nat), opLoad a m h [.one (.ptr id ver i off)] = (match chunkAt h id ver i with | some c => (bif Nat.ble off c.length then (match headV a m (c.drop off) with | some v => some ⟨v, [], [], [id]⟩ | none => none) else none) | none => none)) ∧
    (∀ (h : HF) (id ver i : Nat), chunkAt h id ver i = (match h id with | some b => (bif Nat.beq b.ver ver && !b.mp then b.ch[i]? else none) | none => none)) ∧
    (∀ (m : Nat) (c : DL) (cs : List DL), headV false m (c :: cs) = (some (.one c))) ∧
    (∀ (m : Nat) (cs : List DL), headV true m cs = (bif Nat.ble m cs.length then some (.agg (cs.take m)) else none)) ∧
    (∀ (b m : Nat) (h : HF) (id ver i off : Nat) (x : DV), opStore b m h [.one (.ptr id ver i off), x] = (match h id with | some k => (match x.cells with | some cs => storeIn b m id ver i off k cs | none => none) | none => none)) ∧
    (∀ (l : DL), (DV.one l).cells = (some [l])) ∧
    (∀ (cs : List DL), (DV.agg cs).cells = (some cs)) ∧
    (∀ (base sz id ver i off : Nat) (b : Blk) (cs : List DL), storeIn base sz id ver i off b cs = (bif Nat.beq b.ver ver && !b.mp && !b.fz && Nat.beq cs.length sz && (Nat.ble base id || allPure cs) then (match b.ch[i]? with | some c => (bif Nat.ble (off + sz) c.length then some ⟨.tup [], [], [(id, { b with ch := b.ch.set i (c.take off ++ cs ++ c.drop (off + sz)) })], [id]⟩ else none) | none => none) else none)) ∧
    (∀ (e : Nat) (z : List PL) (m n : Nat) (k k2 : IntKind) (l c : Nat), opMakeSlice e z m n [.one (.p (.int k (.ofNat l))), .one (.p (.int k2 (.ofNat c)))] = (bif Nat.ble l c && Nat.ble (m * c) lim && Nat.ble c 9223372036854775807 then some ⟨.one (.own n 0 0 l), [⟨false, 0, z.length, List.replicate l (z.map .p), false, e⟩], [], []⟩ else none)) ∧
    (∀ (E : Oracle) (b : Nat) (ops : List XOper) (s : St), evDraw E b ops s = (match evOpsD E b 0 ops s with | some (s, fs) => (if plainB fs = true then some s else (if footsOk fs = true then some s else none)) | none => none)) ∧
    (plainB [] = (true)) ∧
    (∀ (i : Nat) (rd wr af : List Nat) (lo hi : Nat) (fs : List Foot), plainB (⟨i, rd, wr, af, lo, hi⟩ :: fs) = (wr.isEmpty && Nat.beq lo hi && plainB fs)) ∧
    (∀ (E : Oracle) (b : Nat) (p u : List XOper) (s : St), evDrawS E b p u s = (match evDraw E b p s with | some s => evOps E b u s | none => none)) ∧
    (∀ (E : Oracle) (b i : Nat) (s : St), evOpsD E b i [] s = (some (s, []))) ∧
    (∀ (E : Oracle) (b i : Nat) (o : XOper) (os : List XOper) (s : St), evOpsD E b i (o :: os) s = (bif isHeapCall E o.op && !(os.isEmpty && allBelow o.after i) then none else (match evOper E b (isHeapCall E o.op) o s with | some (s1, rd, wr) => (match evOpsD E b (i + 1) os s1 with | some (s2, fs) => some (s2, ⟨i, rd, wr, o.after, s.H.length, s1.H.length⟩ :: fs) | none => none) | none => none))) ∧
    (∀ (n : Nat), cI n = (.int .i64 (.ofNat n))) ∧
    (∀ (n : Nat), cN n = (.int .i64 (.negSucc n))) ∧
    (∀ (n : Nat), cW n = (.int .u32 (.ofNat n))) ∧
    (∀ (n : Nat), cQ n = (.int .u64 (.ofNat n))) ∧
    (∀ (n : Nat), cB n = (.int .u8 (.ofNat n))) ∧
    (∀ (n : Nat), cC n = (.c (.one (.int .i64 (.ofNat n))))) ∧
    (cF = (.c (.one (.bool false)))) ∧
    (cT = (.c (.one (.bool true)))) ∧
    (∀ (d : Nat) (op : XOp) (a : List XOpd), oP d op a = (⟨some d, op, a, none, []⟩)) ∧
    (∀ (d : Nat) (op : XOp) (a : List XOpd) (af : List Nat), oA d op a af = (⟨some d, op, a, none, af⟩)) ∧
    (∀ (d : Nat) (op : XOp) (a : List XOpd) (g : Nat) (b : Bool) (af : List Nat), oG d op a g b af = (⟨some d, op, a, some (g, b), af⟩)) ∧
    (∀ (op : XOp) (a : List XOpd) (af : List Nat), oN op a af = (⟨none, op, a, none, af⟩)) ∧
    (∀ (d t : Nat), mV d t = (⟨some d, .move, [.t t], none, []⟩)) ∧
    (∀ (d t : Nat) (af : List Nat), mA d t af = (⟨some d, .move, [.t t], none, af⟩)) ∧
    (∀ (d : Nat) (c : XOpd), mC d c = (⟨some d, .move, [c], none, []⟩)) ∧
    (∀ (l : List XOper), rG l = (.region false l)) ∧
    (∀ (l : List XOper), rD l = (.region true l)) ∧
    (∀ (x y : XCode), sQ x y = (.seq x y)) ∧
    (∀ (E : Oracle) (K nt : Nat) (rs : List (Nat × Option (Bool × Nat))) (c : XCode) (args : List PV), evPureF E K ⟨nt, rs, c⟩ args = (bif Nat.ble (args.map inj).length nt then (match evCode E K 0 c ⟨argsT (args.map inj) 0, []⟩ with | some (.normal, s) => finP rs s | some (.ret, s) => finP rs s | _ => none) else none)) ∧
    (∀ (rs : List (Nat × Option (Bool × Nat))) (s : St), finP rs s = (match mapO (loadRes s) rs with | some ds => (match mapO (freezeV1 (HFof s.H)) ds with | some ps => some (packP ps) | none => none) | none => none)) ∧
    (∀ (n : Nat), argsT [] n = ([])) ∧
    (∀ (v : DV) (vs : List DV) (n : Nat), argsT (v :: vs) n = ((n, v) :: argsT vs (n + 1))) ∧
    (∀ (s : St) (t : Nat), loadRes s (t, none) = (getT s.T t)) ∧
    (∀ (s : St) (t : Nat) (a : Bool) (sz : Nat), loadRes s (t, some (a, sz)) = (match getT s.T t with | some (.one (.ptr id ver i off)) => (match s.H[id]? with | some b => (bif Nat.beq b.ver ver && !b.mp then (match b.ch[i]? with | some c => (bif a then (bif Nat.ble (off + sz) c.length then some (.agg ((c.drop off).take sz)) else none) else (match c.drop off with | d :: _ => some (.one d) | [] => none)) | none => none) else none) | none => none) | _ => none)) ∧
    (∀ (v : PV), packP [v] = (v)) ∧
    (∀ (u v : PV) (r : List PV), packP (u :: v :: r) = (.tup (u :: v :: r))) ∧
    (∀ (h : HF) (l : PL), freezeV1 h (.one (.p l)) = (some (.one l))) ∧
    (∀ (h : HF) (id ver off len : Nat), freezeV1 h (.one (.own id ver off len)) = (match freezeL 6 h (.own id ver off len) with | some l => some (.one l) | none => none)) ∧
    (∀ (h : HF) (cs : List DL), freezeV1 h (.agg cs) = (match mapO (freezeL 6 h) cs with | some cs => some (.agg cs) | none => none)) ∧
    (∀ (n : Nat) (h : HF) (l : PL), freezeL n h (.p l) = (some l)) ∧
    (∀ (n : Nat) (h : HF) (id ver off len : Nat), freezeL (n + 1) h (.own id ver off len) = (match h id with | some b => (bif Nat.beq b.ver ver && !b.mp && Nat.ble (off + len) b.ch.length then (match mapO (mapO (freezeL n h)) ((b.ch.drop off).take len) with | some es => some (.lst es) | none => none) else none) | none => none)) ∧
    (∀ (h : HF) (l : DL), idsV h (.one l) = (idsL 6 h l)) ∧
    (∀ (h : HF) (cs : List DL), idsV h (.agg cs) = (cs.flatMap (idsL 6 h))) ∧
    (∀ (n : Nat) (h : HF) (l : PL), idsL n h (.p l) = ([])) ∧
    (∀ (n : Nat) (h : HF) (id ver off len : Nat), idsL (n + 1) h (.own id ver off len) = (match h id with | some b => id :: ((b.ch.drop off).take len).flatMap (fun c => c.flatMap (idsL n h)) | none => [])) ∧
    (∀ (E : Oracle) (h : HF) (f : Nat) (vs : List DV), evPure E h f vs = (match E.mode f with | .pure => (match mapO (freezeV1 h) vs with | some ps => (match E.pure f ps with | some r => (bif (vs.flatMap (idsV h)).isEmpty || r.scalar then some ⟨inj r, [], [], vs.flatMap (idsV h)⟩ else some ⟨inj r, [], (vs.flatMap (idsV h)).filterMap (fun id => (h id).map fun b => (id, { b with fz := true })), vs.flatMap (idsV h)⟩) | none => none) | none => none) | _ => none)) ∧
    (∀ (E : Oracle) (f : Nat), isHeapF E f = (match E.mode f with | .pure => false | _ => true)) ∧
    (∀ (l : PL), (PV.one l).scalar = (l.scalar)) ∧
    (∀ (cs : List PL), (PV.agg cs).scalar = (cs.all PL.scalar)) ∧
    (∀ (vs : List PV), (PV.tup vs).scalar = (vs.all PV.scalar1)) ∧
    (∀ (l : PL), (PV.one l).scalar1 = (l.scalar)) ∧
    (∀ (cs : List PL), (PV.agg cs).scalar1 = (cs.all PL.scalar)) ∧
    (∀ (b : Bool), PL.scalar (.bool b) = (true)) ∧
    (∀ (k : IntKind) (n : Int), PL.scalar (.int k n) = (true)) ∧
    (PL.scalar (.nilS) = (true)) ∧
    (∀ (s : List Nat), PL.scalar (.str s) = (true)) ∧
    (PL.scalar (.junk) = (true)) ∧
    (∀ (es : List (List PL)), PL.scalar (.lst es) = (false)) ∧
    (∀ (cs : List PL), PL.scalar (.ref cs) = (false)) ∧
    (∀ (a : Bool) (m p : Nat) (cs : List DL), opField a m p [.agg cs] = (bif Nat.ble p cs.length then (match headV a m (cs.drop p) with | some v => some ⟨v, [], [], []⟩ | none => none) else none)) ∧
    (∀ (z : List PL) (pl : List (Nat × Nat)) (vs : List DV), opBuild z pl vs = (match fillD (z.map .p) pl vs with | some cs => some ⟨.agg cs, [], [], []⟩ | none => none)) ∧
    (∀ (cs : List DL), fillD cs [] [] = (some cs)) ∧
    (∀ (cs : List DL) (off sz : Nat) (ps : List (Nat × Nat)) (v : DV) (vs : List DV), fillD cs ((off, sz) :: ps) (v :: vs) = (match v.cells with | some ds => (bif Nat.beq ds.length sz && Nat.ble (off + sz) cs.length then fillD (cs.take off ++ ds ++ cs.drop (off + sz)) ps vs else none) | none => none)) ∧
    (∀ (e : Nat) (z : List PL) (m : Nat) (pl : List Nat) (n : Nat) (vs : List DV), opBuildSlice e z m pl n vs = (match fillC z.length (List.replicate m (z.map .p)) pl vs with | some cs => some ⟨.one (.own n 0 0 m), [⟨false, 0, z.length, cs, false, e⟩], [], []⟩ | none => none)) ∧
    (∀ (sz : Nat) (cs : List (List DL)), fillC sz cs [] [] = (some cs)) ∧
    (∀ (sz : Nat) (cs : List (List DL)) (i : Nat) (ps : List Nat) (v : DV) (vs : List DV), fillC sz cs (i :: ps) (v :: vs) = (match v.cells with | some ds => (bif Nat.beq ds.length sz && Nat.blt i cs.length then fillC sz (cs.set i ds) ps vs else none) | none => none)) ∧
    (∀ (sz : Nat) (lo hi : Bool) (h : HF) (vs : List DV), opSlice sz lo hi h vs = (match sliceArgs lo hi vs with | some (x, l, u) => (match sliceIn sz h x l u with | some (d, rd) => some ⟨.one d, [], [], rd⟩ | none => none) | none => none)) ∧
    (∀ (x : DL), sliceArgs false false [.one x] = (some (x, 0, none))) ∧
    (∀ (x : DL) (k : IntKind) (a : Nat), sliceArgs true false [.one x, .one (.p (.int k (.ofNat a)))] = (some (x, a, none))) ∧
    (∀ (x : DL) (k : IntKind) (a : Nat), sliceArgs false true [.one x, .one (.p (.int k (.ofNat a)))] = (some (x, 0, some a))) ∧
    (∀ (x : DL) (k k2 : IntKind) (a c : Nat), sliceArgs true true [.one x, .one (.p (.int k (.ofNat a))), .one (.p (.int k2 (.ofNat c)))] = (some (x, a, some c))) ∧
    (∀ (sz : Nat) (h : HF) (es : List (List PL)) (l : Nat), sliceIn sz h (.p (.lst es)) l none = (bif Nat.ble l es.length && Nat.ble es.length es.length && chunkLen sz es[l]? then some (.p (.lst ((es.take es.length).drop l)), []) else none)) ∧
    (∀ (sz : Nat) (h : HF) (es : List (List PL)) (l u : Nat), sliceIn sz h (.p (.lst es)) l (some u) = (bif Nat.ble l u && Nat.ble u es.length && chunkLen sz es[l]? then some (.p (.lst ((es.take u).drop l)), []) else none)) ∧
    (∀ (sz : Nat) (h : HF) (l : Nat), sliceIn sz h (.p .nilS) l none = (bif Nat.beq l 0 && Nat.beq 0 0 then some (.p .nilS, []) else none)) ∧
    (∀ (sz : Nat) (h : HF) (l u : Nat), sliceIn sz h (.p .nilS) l (some u) = (bif Nat.beq l 0 && Nat.beq u 0 then some (.p .nilS, []) else none)) ∧
    (∀ (sz : Nat) (c : List PL), chunkLen sz (some c) = (Nat.beq c.length sz)) ∧
    (∀ (sz : Nat), chunkLen sz none = (true)) ∧
    (∀ (base e sz by_ : Nat) (h : HF) (n : Nat) (y : DL), opAppend base e sz by_ h n [.one (.p .nilS), .one y] = (match chunksOf h y with | some (new, ids) => (bif new.all (fun c => Nat.beq c.length sz) then appendNil e sz by_ n new ids else none) | none => none)) ∧
    (∀ (base e sz by_ : Nat) (h : HF) (n id ver len : Nat) (y : DL), opAppend base e sz by_ h n [.one (.own id ver 0 len), .one y] = (match chunksOf h y with | some (new, ids) => (bif new.all (fun c => Nat.beq c.length sz) then (match h id with | some b => (bif Nat.beq b.ch.length len then appendOwn base e sz by_ id ver len b new ids else appendIn base e sz id ver len b new ids) | none => none) else none) | none => none)) ∧
    (∀ (base e sz by_ id ver len : Nat) (b : Blk) (new : List (List DL)) (ids : List Nat), appendOwn base e sz by_ id ver len b new ids = (bif Nat.beq b.ver ver && !b.mp && !b.fz && Nat.beq b.ch.length len && Nat.beq b.sz sz && Nat.beq b.ty e && Nat.ble base id && Nat.ble ((len + new.length) * by_) lim && Nat.ble (len + new.length) 9223372036854775807 then some ⟨.one (.own id (ver + 1) 0 (len + new.length)), [], [(id, { b with ver := ver + 1, ch := b.ch ++ new })], id :: ids⟩ else none)) ∧
    (∀ (h : HF), chunksOf h (.p .nilS) = (some ([], []))) ∧
    (∀ (h : HF) (es : List (List PL)), chunksOf h (.p (.lst es)) = (some (es.map (·.map .p), []))) ∧
    (∀ (h : HF) (id ver off len : Nat), chunksOf h (.own id ver off len) = (match h id with | some b => (bif Nat.beq b.ver ver && !b.mp && Nat.ble (off + len) b.ch.length then some ((b.ch.drop off).take len, [id]) else none) | none => none)) ∧
    (∀ (α : Type) (x y : α), cond true x y = (x)) ∧
    (∀ (α : Type) (x y : α), cond false x y = (y)) ∧
    (∀ (b : Bool), (true && b) = (b)) ∧
    (∀ (b : Bool), (false && b) = (false)) ∧
    (∀ (b : Bool), (b && true) = (b)) ∧
    (∀ (b : Bool), (b && false) = (false)) ∧
    (∀ (b : Bool), (true || b) = (true)) ∧
    (∀ (b : Bool), (false || b) = (b)) ∧
    (∀ (b : Bool), (b || true) = (true)) ∧
    (∀ (b : Bool), (b || false) = (b)) ∧
    ((!true) = (false)) ∧
    ((!false) = (true)) ∧
    ((true == true) = (true)) ∧
    ((false == false) = (true)) ∧
    ((true == false) = (false)) ∧
    ((false == true) = (false)) ∧
    ((true != true) = (false)) ∧
    ((false != false) = (false)) ∧
    ((true != false) = (true)) ∧
    ((false != true) = (true)) ∧
    (∀ (α β : Type) (f : α → β), List.map f [] = ([])) ∧
    (∀ (α β : Type) (f : α → β) (x : α) (l : List α), List.map f (x :: l) = (f x :: List.map f l)) ∧
    (∀ (n : Nat), Nat.beq n n = (true)) ∧
    (∀ (n : Nat), (n == n) = (true)) ∧
    (∀ (α : Type), ([] : List α).length = (0)) ∧
    (∀ (α : Type) (x : α) (l : List α), (x :: l).length = (l.length + 1)) ∧
    (∀ (α : Type) (x : α) (l : List α), (x :: l)[0]? = (some x)) ∧
    (∀ (α : Type) (x : α) (l : List α) (n : Nat), (x :: l)[n + 1]? = (l[n]?)) ∧
    (∀ (α : Type) (x y : α) (l : List α), (x :: l).set 0 y = (y :: l)) ∧
    (∀ (α : Type) (x y : α) (l : List α) (n : Nat), (x :: l).set (n + 1) y = (x :: l.set n y)) ∧
    (∀ (α : Type) (x : α) (l m : List α), x :: l ++ m = (x :: (l ++ m))) ∧
    (∀ (α : Type) (l : List α), [] ++ l = (l)) ∧
    (∀ (α : Type) (l : List α), l ++ [] = (l)) ∧
    (∀ (α : Type) (l : List α), l.take 0 = ([])) ∧
    (∀ (α : Type) (n : Nat), ([] : List α).take n = ([])) ∧
    (∀ (α : Type) (x : α) (l : List α) (n : Nat), (x :: l).take (n + 1) = (x :: l.take n)) ∧
    (∀ (α : Type) (l : List α), l.drop 0 = (l)) ∧
    (∀ (α : Type) (n : Nat), ([] : List α).drop n = ([])) ∧
    (∀ (α : Type) (x : α) (l : List α) (n : Nat), (x :: l).drop (n + 1) = (l.drop n)) ∧
    (∀ (n : Nat), Nat.ble 0 n = (true)) ∧
    (∀ (α : Type) (p : α → Bool), List.all [] p = (true)) ∧
    (∀ (α : Type) (p : α → Bool) (x : α) (l : List α), List.all (x :: l) p = ((p x && List.all l p))) ∧
    (∀ (α β : Type) (f : α → List β), List.flatMap f [] = ([])) ∧
    (∀ (α β : Type) (f : α → List β) (x : α) (l : List α), List.flatMap f (x :: l) = (f x ++ List.flatMap f l)) ∧
    (∀ (α : Type), ([] : List α).isEmpty = (true)) ∧
    (∀ (α : Type) (x : α) (l : List α), (x :: l).isEmpty = (false)) ∧
    (∀ (α : Type) (x : α), List.replicate 0 x = ([])) ∧
    (∀ (α : Type) (x : α), List.replicate 1 x = ([x])) ∧
    (∀ (α : Type) (x : α), List.replicate 2 x = ([x, x])) ∧
    (∀ (α : Type) (x : α), List.replicate 3 x = ([x, x, x])) ∧
    (∀ (α β : Type) (f : α → Option β) (x : α) (l : List α), List.filterMap f (x :: l) = ((match f x with | none => List.filterMap f l | some b => b :: List.filterMap f l))) ∧
    (∀ (α β : Type) (f : α → β) (x : α), Option.map f (some x) = (some (f x))) ∧
    (∀ (α β : Type) (f : α → Option β), List.filterMap f [] = ([])) ∧
    (∀ (n : Nat), n + 0 = (n)) ∧
    (∀ (n : Nat), 0 + n = (n)) := by
  refine ⟨?_, ?_, ?_, ?_, ?_, ?_, ?_, ?_, ?_, ?_, ?_, ?_, ?_, ?_, ?_, ?_, ?_, ?_, ?_, ?_, ?_, ?_, ?_, ?_, ?_, ?_, ?_, ?_, ?_, ?_, ?_, ?_, ?_, ?_, ?_, ?_, ?_, ?_, ?_, ?_, ?_, ?_, ?_, ?_, ?_, ?_, ?_, ?_, ?_, ?_, ?_, ?_, ?_, ?_, ?_, ?_, ?_, ?_, ?_, ?_, ?_, ?_, ?_, ?_, ?_, ?_, ?_, ?_, ?_, ?_, ?_, ?_, ?_, ?_, ?_, ?_, ?_, ?_, ?_, ?_, ?_, ?_, ?_, ?_, ?_, ?_, ?_, ?_, ?_, ?_, ?_, ?_, ?_, ?_, ?_, ?_, ?_, ?_, ?_, ?_, ?_, ?_, ?_, ?_, ?_, ?_, ?_, ?_, ?_, ?_, ?_, ?_, ?_, ?_, ?_, ?_, ?_, ?_, ?_, ?_, ?_, ?_, ?_, ?_, ?_, ?_, ?_, ?_, ?_, ?_, ?_, ?_, ?_, ?_, ?_, ?_, ?_, ?_, ?_, ?_, ?_, ?_, ?_, ?_, ?_, ?_, ?_, ?_, ?_, ?_, ?_, ?_, ?_, ?_, ?_, ?_, ?_, ?_, ?_, ?_, ?_, ?_, ?_, ?_, ?_, ?_, ?_, ?_, ?_, ?_, ?_, ?_, ?_, ?_, ?_, ?_, ?_, ?_, ?_, ?_, ?_, ?_, ?_, ?_, ?_, ?_, ?_, ?_, ?_, ?_, ?_, ?_, ?_, ?_, ?_, ?_, ?_, ?_, ?_, ?_, ?_, ?_, ?_, ?_, ?_, ?_, ?_, ?_, ?_, ?_, ?_, ?_, ?_, ?_, ?_, ?_, ?_, ?_, ?_, ?_, ?_, ?_, ?_, ?_, ?_, ?_, ?_, ?_, ?_, ?_, ?_, ?_, ?_, ?_, ?_, ?_, ?_, ?_, ?_, ?_, ?_, ?_, ?_, ?_, ?_, ?_, ?_, ?_, ?_, ?_, ?_, ?_, ?_, ?_, ?_, ?_, ?_, ?_, ?_, ?_, ?_, ?_, ?_, ?_, ?_, ?_, ?_, ?_, ?_, ?_, ?_, ?_, ?_, ?_, ?_, ?_, ?_, ?_, ?_, ?_, ?_, ?_, ?_, ?_, ?_, ?_, ?_, ?_, ?_, ?_, ?_, ?_, ?_, ?_, ?_, ?_, ?_, ?_, ?_, ?_, ?_, ?_, ?_, ?_, ?_, ?_, ?_, ?_, ?_, ?_, ?_, ?_, ?_, ?_, ?_, ?_, ?_, ?_, ?_, ?_, ?_, ?_, ?_, ?_, ?_, ?_⟩ <;> intros <;> first | rfl | exact getT_cons .. | exact mapO_two .. | exact evDraw_if .. | exact loop_loopK .. | exact pureF_eq .. | exact frzL0 .. | exact idsL0 .. | exact app_nil .. | exact app_own .. | (simp only [evCode, keepK_eq]; done) | (simp only [evOper, putK_eq, finishOp, valK_eq, wrK_eq, alK_eq]; rfl) | (rename_i k _ _; cases k <;> rfl) | (rename_i b; cases b <;> rfl) | exact Nat.beq_refl _ | exact beq_self_eq_true _ | exact List.append_nil _ | simp

/-- The check of a region's order, in pieces. -/
theorem EVF : (∀ fs, footsOk fs = fs.all fun f => (f.wr.isEmpty && Nat.beq f.lo f.hi) || fs.all fun g => footOk f g) ∧
    (∀ f g, footOk f g = (Nat.beq f.i g.i || (f.wr.all (fun id => !(g.wr.contains id) && (!(g.rd.contains id) || f.after.contains g.i)) && g.rd.all (fun id => !(Nat.ble f.lo id && Nat.ble (id + 1) f.hi) || g.after.contains f.i) && g.wr.all (fun id => !(Nat.ble f.lo id && Nat.ble (id + 1) f.hi) || g.after.contains f.i)))) ∧
    (∀ (x y : Nat) (l : List Nat), (y :: l).contains x = (decide (x = y) || l.contains x)) ∧ (∀ x : Nat, ([] : List Nat).contains x = false) ∧
    (∀ (G : List Blk) (y : Blk), (G ++ [y])[G.length]? = some y) ∧ (∀ (G : List Blk) (x y : Blk), (G ++ [x, y])[G.length + 1]? = some y) ∧ (∀ (G : List Blk) (x y : Blk), (G ++ [x, y])[G.length]? = some x) ∧
    (∀ (G : List Blk) (x y : Blk), (G ++ [x]) ++ [y] = G ++ [x, y]) ∧ (∀ (G : List Blk) (x : Blk), (G ++ [x]).length = G.length + 1) ∧ (∀ (G : List Blk) (x y : Blk), (G ++ [x, y]).length = G.length + 2) ∧
    (∀ (G : List Blk) (x y : Blk), (G ++ [x]).set G.length y = G ++ [y]) ∧ (∀ (G : List Blk) (x y z : Blk), (G ++ [x, y]).set (G.length + 1) z = G ++ [x, z]) ∧ (∀ (G : List Blk) (x y z : Blk), (G ++ [x, y]).set G.length z = G ++ [z, y]) ∧
    (∀ n : Nat, (n = n + 1) = False) ∧ (∀ n : Nat, (n + 1 = n) = False) ∧ (∀ n : Nat, (n + 1 ≤ n) = False) ∧ (∀ n : Nat, (n ≤ n + 1) = True) ∧ (∀ n : Nat, (n = n + 2) = False) ∧ (∀ n : Nat, (n + 2 = n) = False) ∧ (∀ n : Nat, (n + 2 ≤ n) = False) ∧ (∀ n : Nat, (n ≤ n + 2) = True) ∧ (∀ n : Nat, (n = n + 3) = False) ∧ (∀ n : Nat, (n + 3 = n) = False) ∧ (∀ n : Nat, (n + 3 ≤ n) = False) ∧ (∀ n : Nat, (n ≤ n + 3) = True) ∧ (∀ n : Nat, (n = n + 4) = False) ∧ (∀ n : Nat, (n + 4 = n) = False) ∧ (∀ n : Nat, (n + 4 ≤ n) = False) ∧ (∀ n : Nat, (n ≤ n + 4) = True) ∧ (∀ n : Nat, (n ≤ n) = True) := by
  refine ⟨fun _ => rfl, fun _ _ => rfl, fun x y l => ?_, fun _ => rfl, ?_, ?_, ?_, ?_, ?_, ?_, ?_, ?_, ?_, ?_, ?_, ?_, ?_, ?_, ?_, ?_, ?_, ?_, ?_, ?_, ?_, ?_, ?_, ?_, ?_, ?_⟩
  · simp only [List.contains_cons]; congr 1
  all_goals intros; first | (simp; done) | (simp only [eq_iff_iff, iff_false, iff_true]; omega)


end Go.Ev
