/- Definitions: abstract values, a small instruction set with all sizes resolved, and a deterministic interpreter over abstract values. Nothing is proved here. -/
import Derived.WalkKit
namespace Go.Ev

/-- Pure leaves: what a cell holds, seen through immutable memory. -/
inductive PL where
  | bool (b : Bool)
  | int (k : IntKind) (n : Int)
  | nilS
  | lst (es : List (List PL))
  | ref (cs : List PL)
  | fn (f : Nat) (caps : List PL)
  | str (bs : List Nat)
  | junk

/-- Leaves: pure ones, and references into the blocks of the call's own. -/
inductive DL where
  | p (l : PL)
  | own (id ver off len : Nat)
  | ptr (id ver i off : Nat)
  | fn (f : Nat) (caps : List DL)
  | mp (id : Nat)

inductive PV where
  | one (l : PL)
  | agg (cs : List PL)
  | tup (vs : List PV)

inductive DV where
  | one (l : DL)
  | agg (cs : List DL)
  | tup (vs : List DV)

structure Blk where
  fz : Bool
  ver : Nat
  sz : Nat
  ch : List (List DL)
  mp : Bool
  ty : Nat

inductive XOpd where
  | t (n : Nat)
  | c (v : PV)

inductive XOp where
  | move
  | nilCheck
  | pick
  | box (t : Nat)
  | alloc (t : Nat) (z : List PL)
  | build (z : List PL) (places : List (Nat × Nat))
  | buildSlice (e : Nat) (z : List PL) (len : Nat) (places : List Nat)
  | load (agg : Bool) (sz : Nat)
  | store (sz : Nat)
  | bin (op : BinOp)
  | binB (neq : Bool)
  | binNil (neq : Bool)
  | binAgg (neq : Bool) (k : IntKind) (len : Nat)
  | un (op : UnOp)
  | conv (k : IntKind)
  | fieldAddr (off : Nat)
  | indexS (sz : Nat)
  | indexA (len sz : Nat)
  | indexStr
  | indexV (len : Nat) (agg : Bool) (sz : Nat)
  | field (agg : Bool) (sz off : Nat)
  | slice (sz : Nat) (lo hi : Bool)
  | extract (n : Nat)
  | len
  | lenA (n : Nat)
  | append (e sz bytes : Nat)
  | makeSlice (e : Nat) (z : List PL) (bytes : Nat)
  | max
  | min
  | copy (sz : Nat)
  | makeMap (klen : Nat) (agg : Bool)
  | lookup (klen : Nat) (k : IntKind) (agg : Bool) (z : List PL) (ok : Bool)
  | mapUpdate (klen : Nat) (k : IntKind) (agg : Bool) (vsz : Nat)
  | lenMap
  | makeFunc (f : Nat)
  | call (f : Nat)
  | callV
  | clear (z : List PL)
  | slice3

structure XOper where
  dst : Option Nat
  op : XOp
  args : List XOpd
  guard : Option (Nat × Bool)
  after : List Nat

inductive XCode where
  | skip
  | region (draws : Bool) (ops : List XOper)
  | regionS (pre suf : List XOper)
  | seq (a b : XCode)
  | cond (c : XOpd) (a b : XCode)
  | block (id : Nat) (c : XCode)
  | loop (c : XCode)
  | keep (ks : List Nat) (c : XCode)
  | scope (c : XCode)
  | exit (id : Nat)
  | ret
  | rfun (f : XOpd) (vars : List Nat) (pre body : XCode)

/-! Short words for the tables. -/
abbrev cI (n : Nat) : PL := .int .i64 (.ofNat n)
abbrev cN (n : Nat) : PL := .int .i64 (.negSucc n)
abbrev cW (n : Nat) : PL := .int .u32 (.ofNat n)
abbrev cQ (n : Nat) : PL := .int .u64 (.ofNat n)
abbrev cB (n : Nat) : PL := .int .u8 (.ofNat n)
abbrev cC (n : Nat) : XOpd := .c (.one (.int .i64 (.ofNat n)))
abbrev cF : XOpd := .c (.one (.bool false))
abbrev cT : XOpd := .c (.one (.bool true))
abbrev oP (d : Nat) (op : XOp) (a : List XOpd) : XOper := ⟨some d, op, a, none, []⟩
abbrev oA (d : Nat) (op : XOp) (a : List XOpd) (af : List Nat) : XOper := ⟨some d, op, a, none, af⟩
abbrev oG (d : Nat) (op : XOp) (a : List XOpd) (g : Nat) (b : Bool) (af : List Nat) : XOper := ⟨some d, op, a, some (g, b), af⟩
abbrev oN (op : XOp) (a : List XOpd) (af : List Nat) : XOper := ⟨none, op, a, none, af⟩
abbrev mV (d t : Nat) : XOper := ⟨some d, .move, [.t t], none, []⟩
abbrev mA (d t : Nat) (af : List Nat) : XOper := ⟨some d, .move, [.t t], none, af⟩
abbrev mC (d : Nat) (c : XOpd) : XOper := ⟨some d, .move, [c], none, []⟩
abbrev rG : List XOper → XCode := .region false
abbrev rD : List XOper → XCode := .region true
abbrev sQ : XCode → XCode → XCode := .seq

structure XFunc where
  ntmps : Nat
  results : List (Nat × Option (Bool × Nat))
  body : XCode

/-- A function's number from 'bnd' on: the function of the number less bnd, bound to its first arguments. -/
def bnd : Nat := 1000
def fnF (f : Nat) : Nat := bif Nat.blt f bnd then f else f - bnd
def fnA {α : Type} (f : Nat) (vs caps : List α) : List α := bif Nat.blt f bnd then vs ++ caps else caps ++ vs

/-! ## Pure values as values -/

def injL (l : PL) : DL := .p l
def inj1 : PV → DV
  | .one l => .one (.p l)
  | .agg cs => .agg (cs.map .p)
  | .tup _ => .tup []
def inj : PV → DV
  | .one l => .one (.p l)
  | .agg cs => .agg (cs.map .p)
  | .tup vs => .tup (vs.map inj1)

def DV.cells : DV → Option (List DL)
  | .one l => some [l]
  | .agg cs => some cs
  | .tup _ => none

abbrev HF := Nat → Option Blk

/-! ## Freezing: references into own blocks become pure -/

def mapO {α β : Type} (f : α → Option β) : List α → Option (List β)
  | [] => some []
  | x :: xs => match f x with
    | none => none
    | some y => match mapO f xs with
      | none => none
      | some ys => some (y :: ys)

def freezeL : Nat → HF → DL → Option PL
  | _, _, .p l => some l
  | 0, _, _ => none
  | n + 1, h, .own id ver off len =>
    match h id with
    | some b => bif Nat.beq b.ver ver && !b.mp && Nat.ble (off + len) b.ch.length then
        match mapO (mapO (freezeL n h)) ((b.ch.drop off).take len) with
        | some es => some (.lst es)
        | none => none
      else none
    | none => none
  | n + 1, h, .ptr id ver i off =>
    match h id with
    | some b => bif Nat.beq b.ver ver && !b.mp then
        match b.ch[i]? with
        | some c => match mapO (freezeL n h) (c.drop off) with
          | some cs => some (.ref cs)
          | none => none
        | none => none
      else none
    | none => none
  | n + 1, h, .fn f caps => match mapO (freezeL n h) caps with
    | some cs => some (.fn f cs)
    | none => none
  | _ + 1, _, .mp _ => none

/-- The ids that freezing looks at. -/
def idsL : Nat → HF → DL → List Nat
  | _, _, .p _ => []
  | 0, _, _ => []
  | n + 1, h, .own id _ off len =>
    match h id with
    | some b => id :: ((b.ch.drop off).take len).flatMap fun c => c.flatMap (idsL n h)
    | none => []
  | n + 1, h, .ptr id _ i off =>
    match h id with
    | some b => match b.ch[i]? with
      | some c => id :: (c.drop off).flatMap (idsL n h)
      | none => []
    | none => []
  | n + 1, h, .fn _ caps => caps.flatMap (idsL n h)
  | _ + 1, _, .mp _ => []

def freezeDepth : Nat := 6

def freezeV1 (h : HF) : DV → Option PV
  | .one l => match freezeL freezeDepth h l with
    | some l => some (.one l)
    | none => none
  | .agg cs => match mapO (freezeL freezeDepth h) cs with
    | some cs => some (.agg cs)
    | none => none
  | .tup _ => none

def freezeV (h : HF) : DV → Option PV
  | .tup vs => match mapO (freezeV1 h) vs with
    | some vs => some (.tup vs)
    | none => none
  | v => freezeV1 h v

def idsV (h : HF) : DV → List Nat
  | .one l => idsL freezeDepth h l
  | .agg cs => cs.flatMap (idsL freezeDepth h)
  | .tup _ => []

def PL.scalar : PL → Bool
  | .bool _ => true
  | .int _ _ => true
  | .nilS => true
  | .str _ => true
  | .junk => true
  | _ => false

def PV.scalar1 : PV → Bool
  | .one l => l.scalar
  | .agg cs => cs.all PL.scalar
  | .tup vs => vs.isEmpty

def PV.scalar : PV → Bool
  | .tup vs => vs.all PV.scalar1
  | v => v.scalar1

/-! ## Operations -/

structure Res where
  val : DV
  al : List Blk
  wr : List (Nat × Blk)
  rd : List Nat

def Res.pure (v : DV) : Res := ⟨v, [], [], []⟩

/-- How a callee is called: with frozen arguments, a pure result ('pure'); with references into the caller's blocks, which it may write, over one heap with the caller ('heap'). -/
inductive Mode where
  | pure
  | heap

structure Oracle where
  mode : Nat → Mode
  pure : Nat → List PV → Option PV
  heap : Nat → List DV → List Blk → Option (DV × List Blk)
  iter : Nat → List PL → Option (List (List PV))

/-! Arithmetic in a form that the kernel computes fast (equal to the model's: proved in the next text). -/

def kidx : IntKind → Nat
  | .i8 => 0
  | .i16 => 1
  | .i32 => 2
  | .i64 => 3
  | .u8 => 4
  | .u16 => 5
  | .u32 => 6
  | .u64 => 7
def keq (a b : IntKind) : Bool := Nat.beq (kidx a) (kidx b)
def kbits : IntKind → Nat
  | .i8 => 8
  | .i16 => 16
  | .i32 => 32
  | .i64 => 64
  | .u8 => 8
  | .u16 => 16
  | .u32 => 32
  | .u64 => 64
def kmod : IntKind → Nat
  | .i8 => 256
  | .i16 => 65536
  | .i32 => 4294967296
  | .i64 => 18446744073709551616
  | .u8 => 256
  | .u16 => 65536
  | .u32 => 4294967296
  | .u64 => 18446744073709551616
def ksigned : IntKind → Bool
  | .i8 => true
  | .i16 => true
  | .i32 => true
  | .i64 => true
  | _ => false
/-- The residue of an integer. -/
def resF (k : IntKind) : Int → Nat
  | .ofNat m => m % kmod k
  | .negSucc m => (kmod k - 1) - m % kmod k
def signF (k : IntKind) (r : Nat) : Int :=
  bif ksigned k && Nat.ble (kmod k / 2) r then Int.negSucc (kmod k - r - 1) else Int.ofNat r
def wrapF (k : IntKind) (n : Int) : Int := signF k (resF k n)
def ltF : Int → Int → Bool
  | .ofNat a, .ofNat b => Nat.blt a b
  | .ofNat _, .negSucc _ => false
  | .negSucc _, .ofNat _ => true
  | .negSucc a, .negSucc b => Nat.blt b a
def eqF : Int → Int → Bool
  | .ofNat a, .ofNat b => Nat.beq a b
  | .negSucc a, .negSucc b => Nat.beq a b
  | _, _ => false
def leF (a b : Int) : Bool := !ltF b a
def shrF (a : Int) (n : Nat) : Int :=
  match a with
  | .ofNat m => .ofNat (m / 2 ^ n)
  | .negSucc m => .negSucc (m / 2 ^ n)

def dInt (k : IntKind) (n : Int) : Option DL := some (.p (.int k n))
def dBool (b : Bool) : Option DL := some (.p (.bool b))
def binShl (k : IntKind) (a : Int) : Int → Option DL
  | .ofNat n => dInt k (wrapF k (a * Int.ofNat (2 ^ (Nat.min n (kbits k)))))
  | .negSucc _ => none
def binShr (k : IntKind) (a : Int) : Int → Option DL
  | .ofNat n => dInt k (shrF a (Nat.min n (kbits k)))
  | .negSucc _ => none
def binQuo (k : IntKind) (a b : Int) : Option DL := bif eqF b 0 then none else dInt k (wrapF k (Int.tdiv a b))
def binRem (k : IntKind) (a b : Int) : Option DL := bif eqF b 0 then none else dInt k (Int.tmod a b)
def sameK (k k' : IntKind) (r : Option DL) : Option DL := bif keq k k' then r else none
def evBinI (op : BinOp) (k k' : IntKind) (a b : Int) : Option DL :=
  match op with
  | .shl => binShl k a b
  | .shr => binShr k a b
  | .add => sameK k k' (dInt k (wrapF k (a + b)))
  | .sub => sameK k k' (dInt k (wrapF k (a - b)))
  | .mul => sameK k k' (dInt k (wrapF k (a * b)))
  | .quo => sameK k k' (binQuo k a b)
  | .rem => sameK k k' (binRem k a b)
  | .and => sameK k k' (dInt k (signF k (Nat.land (resF k a) (resF k b))))
  | .or => sameK k k' (dInt k (signF k (Nat.lor (resF k a) (resF k b))))
  | .xor => sameK k k' (dInt k (signF k (Nat.xor (resF k a) (resF k b))))
  | .andNot => sameK k k' (dInt k (signF k (Nat.land (resF k a) (Nat.xor (kmod k - 1) (resF k b)))))
  | .eql => sameK k k' (dBool (eqF a b))
  | .neq => sameK k k' (dBool (!eqF a b))
  | .lss => sameK k k' (dBool (ltF a b))
  | .leq => sameK k k' (dBool (leF a b))
  | .gtr => sameK k k' (dBool (ltF b a))
  | .geq => sameK k k' (dBool (leF b a))
/-- Is a slice nil? -/
def DL.isNil : DL → Option Bool
  | .p .nilS => some true
  | .p (.lst _) => some false
  | .own _ _ _ _ => some false
  | _ => none

/-- Two rows of integers of one kind, compared. -/
def eqInts (k : IntKind) : List DL → List DL → Option Bool
  | [], [] => some true
  | .p (.int k1 a) :: xs, .p (.int k2 b) :: ys =>
    bif keq k1 k && keq k2 k then
      match eqInts k xs ys with
      | some r => some (eqF a b && r)
      | none => none
    else none
  | _, _ => none

def evUn (op : UnOp) : DL → Option DL
  | .p (.int k n) =>
    match op with
    | .neg => some (.p (.int k (wrapF k (0 - n))))
    | .xor => some (.p (.int k (signF k (Nat.xor (kmod k - 1) (resF k n)))))
    | _ => none
  | .p (.bool b) =>
    match op with
    | .not => some (.p (.bool (!b)))
    | _ => none
  | _ => none

/-- The parts laid into the zero cells. -/
def fillD : List DL → List (Nat × Nat) → List DV → Option (List DL)
  | cs, [], [] => some cs
  | cs, (off, sz) :: ps, v :: vs =>
    match v.cells with
    | some ds => bif Nat.beq ds.length sz && Nat.ble (off + sz) cs.length then fillD (cs.take off ++ ds ++ cs.drop (off + sz)) ps vs else none
    | none => none
  | _, _, _ => none

def fillC (sz : Nat) : List (List DL) → List Nat → List DV → Option (List (List DL))
  | cs, [], [] => some cs
  | cs, i :: ps, v :: vs =>
    match v.cells with
    | some ds => bif Nat.beq ds.length sz && Nat.blt i cs.length then fillC sz (cs.set i ds) ps vs else none
    | none => none
  | _, _, _ => none

def maxD (pickNew : Int → Int → Bool) : IntKind → Int → List DV → Option DV
  | k, a, [] => some (.one (.p (.int k a)))
  | k, a, .one (.p (.int k' b)) :: vs => bif keq k k' then maxD pickNew k (bif pickNew a b then b else a) vs else none
  | _, _, _ => none

/-- The cells of a slice that is read: its chunks, and the id that was looked at. -/
def chunksOf (h : HF) : DL → Option (List (List DL) × List Nat)
  | .p .nilS => some ([], [])
  | .p (.lst es) => some (es.map (·.map .p), [])
  | .own id ver off len =>
    match h id with
    | some b => bif Nat.beq b.ver ver && !b.mp && Nat.ble (off + len) b.ch.length then some ((b.ch.drop off).take len, [id]) else none
    | none => none
  | _ => none

def allPure : List DL → Bool
  | [] => true
  | .p _ :: cs => allPure cs
  | _ :: _ => false

/-- The entry of a key: its place, its cells. -/
def findC (k : IntKind) (klen : Nat) (key : List DL) : List (List DL) → Nat → Option (Option (Nat × List DL))
  | [], _ => some none
  | c :: cs, i =>
    match eqInts k key (c.take klen) with
    | some true => some (some (i, c))
    | some false => findC k klen key cs (i + 1)
    | none => none

def asVal (agg : Bool) (cs : List DL) : Option DV :=
  bif agg then some (.agg cs) else match cs with
    | [c] => some (.one c)
    | _ => none

def lim : Nat := 140737488355328

def opMove : List DV → Option Res
  | [x] => some (.pure x)
  | _ => none
def opNilCheck : List DV → Option Res
  | [.one (.ptr id ver i off)] => some (.pure (.one (.ptr id ver i off)))
  | [.one (.p (.ref cs))] => some (.pure (.one (.p (.ref cs))))
  | [.one (.fn f cs)] => some (.pure (.one (.fn f cs)))
  | [.one (.p (.fn f cs))] => some (.pure (.one (.p (.fn f cs))))
  | _ => none
def opPick : List DV → Option Res
  | [.one (.p (.bool c)), a, b] => some (.pure (bif c then a else b))
  | _ => none
def opBox (t n : Nat) : List DV → Option Res
  | [x] => match x.cells with
    | some cs => some ⟨.one (.ptr n 0 0 0), [⟨false, 0, cs.length, [cs], false, t⟩], [], []⟩
    | none => none
  | _ => none
def opAlloc (t : Nat) (z : List PL) (n : Nat) : List DV → Option Res
  | [] => some ⟨.one (.ptr n 0 0 0), [⟨false, 0, z.length, [z.map .p], false, t⟩], [], []⟩
  | _ => none
def opBuild (z : List PL) (places : List (Nat × Nat)) (vs : List DV) : Option Res :=
  match fillD (z.map .p) places vs with
  | some cs => some (.pure (.agg cs))
  | none => none
def opBuildSlice (e : Nat) (z : List PL) (len : Nat) (places : List Nat) (n : Nat) (vs : List DV) : Option Res :=
  match fillC z.length (List.replicate len (z.map .p)) places vs with
  | some cs => some ⟨.one (.own n 0 0 len), [⟨false, 0, z.length, cs, false, e⟩], [], []⟩
  | none => none
/-- The value at the head of a row of cells. -/
def headV (agg : Bool) (sz : Nat) (cs : List DL) : Option DV :=
  bif agg then (bif Nat.ble sz cs.length then some (.agg (cs.take sz)) else none)
  else match cs with
    | c :: _ => some (.one c)
    | [] => none
/-- The chunk that a pointer leads to. -/
def chunkAt (h : HF) (id ver i : Nat) : Option (List DL) :=
  match h id with
  | some b => bif Nat.beq b.ver ver && !b.mp then b.ch[i]? else none
  | none => none
def opLoad (agg : Bool) (sz : Nat) (h : HF) : List DV → Option Res
  | [.one (.p (.ref cs))] => match headV agg sz (cs.map .p) with
    | some v => some (.pure v)
    | none => none
  | [.one (.ptr id ver i off)] => match chunkAt h id ver i with
    | some c => bif Nat.ble off c.length then
        match headV agg sz (c.drop off) with
        | some v => some ⟨v, [], [], [id]⟩
        | none => none
      else none
    | none => none
  | _ => none
def storeIn (base sz id ver i off : Nat) (b : Blk) (cs : List DL) : Option Res :=
  bif Nat.beq b.ver ver && !b.mp && !b.fz && Nat.beq cs.length sz && (Nat.ble base id || allPure cs) then
    match b.ch[i]? with
    | some c => bif Nat.ble (off + sz) c.length then some ⟨.tup [], [], [(id, { b with ch := b.ch.set i (c.take off ++ cs ++ c.drop (off + sz)) })], [id]⟩ else none
    | none => none
  else none
def opStore (base sz : Nat) (h : HF) : List DV → Option Res
  | [.one (.ptr id ver i off), x] => match h id with
    | some b => match x.cells with
      | some cs => storeIn base sz id ver i off b cs
      | none => none
    | none => none
  | _ => none
def opBin (op : BinOp) : List DV → Option Res
  | [.one (.p (.int k a)), .one (.p (.int k' b))] => match evBinI op k k' a b with
    | some d => some (.pure (.one d))
    | none => none
  | _ => none
def opBinB (neq : Bool) : List DV → Option Res
  | [.one (.p (.bool a)), .one (.p (.bool b))] => some (.pure (.one (.p (.bool ((a == b) != neq)))))
  | _ => none
def nilCmp (neq : Bool) (x y : DL) : Option Bool :=
  match x.isNil, y.isNil with
  | some true, some b => some (b != neq)
  | some false, some true => some neq
  | _, _ => none
def opBinNil (neq : Bool) : List DV → Option Res
  | [.one x, .one y] => match nilCmp neq x y with
    | some b => some (.pure (.one (.p (.bool b))))
    | none => none
  | _ => none
def opBinAgg (neq : Bool) (k : IntKind) (len : Nat) : List DV → Option Res
  | [.agg xs, .agg ys] => bif Nat.beq xs.length len then
      match eqInts k xs ys with
      | some b => some (.pure (.one (.p (.bool (b != neq)))))
      | none => none
    else none
  | _ => none
def opUn (op : UnOp) : List DV → Option Res
  | [.one x] => match evUn op x with
    | some d => some (.pure (.one d))
    | none => none
  | _ => none
def opConv (k : IntKind) : List DV → Option Res
  | [.one (.p (.int _ n))] => some (.pure (.one (.p (.int k (wrapF k n)))))
  | _ => none
def opFieldAddr (off : Nat) : List DV → Option Res
  | [.one (.p (.ref cs))] => bif Nat.ble off cs.length then some (.pure (.one (.p (.ref (cs.drop off))))) else none
  | [.one (.ptr id ver i o)] => some (.pure (.one (.ptr id ver i (o + off))))
  | _ => none
def opIndexS (sz : Nat) (h : HF) : List DV → Option Res
  | [.one (.p (.lst es)), .one (.p (.int _ (.ofNat i)))] => match es[i]? with
    | some c => bif Nat.beq c.length sz then some (.pure (.one (.p (.ref c)))) else none
    | none => none
  | [.one (.own id ver off len), .one (.p (.int _ (.ofNat i)))] => match h id with
    | some b => bif Nat.beq b.sz sz && Nat.blt i len then some ⟨.one (.ptr id ver (off + i) 0), [], [], [id]⟩ else none
    | none => none
  | _ => none
def opIndexA (len sz : Nat) : List DV → Option Res
  | [.one (.p (.ref cs)), .one (.p (.int _ (.ofNat i)))] =>
    bif Nat.blt i len && Nat.ble (i * sz) cs.length then some (.pure (.one (.p (.ref (cs.drop (i * sz)))))) else none
  | [.one (.ptr id ver j o), .one (.p (.int _ (.ofNat i)))] =>
    bif Nat.blt i len then some (.pure (.one (.ptr id ver j (o + i * sz)))) else none
  | _ => none
def opIndexV (len : Nat) (agg : Bool) (sz : Nat) : List DV → Option Res
  | [.agg cs, .one (.p (.int _ (.ofNat i)))] => bif Nat.blt i len && Nat.ble (i * sz) cs.length then
      match headV agg sz (cs.drop (i * sz)) with
      | some v => some (.pure v)
      | none => none
    else none
  | _ => none
def opIndexStr : List DV → Option Res
  | [.one (.p (.str bs)), .one (.p (.int _ (.ofNat i)))] => match bs[i]? with
    | some b => some (.pure (.one (.p (.int .u8 b))))
    | none => none
  | _ => none
def opField (agg : Bool) (sz off : Nat) : List DV → Option Res
  | [.agg cs] => bif Nat.ble off cs.length then
      match headV agg sz (cs.drop off) with
      | some v => some (.pure v)
      | none => none
    else none
  | _ => none
def chunkLen (sz : Nat) : Option (List PL) → Bool
  | some c => Nat.beq c.length sz
  | none => true
def sliceIn (sz : Nat) (h : HF) (x : DL) (l : Nat) (u : Option Nat) : Option (DL × List Nat) :=
  match x with
  | .p (.lst es) => bif Nat.ble l (u.getD es.length) && Nat.ble (u.getD es.length) es.length && chunkLen sz es[l]? then some (.p (.lst ((es.take (u.getD es.length)).drop l)), []) else none
  | .p .nilS => bif Nat.beq l 0 && Nat.beq (u.getD 0) 0 then some (.p .nilS, []) else none
  | .own id ver off len => match h id with
    | some b => bif Nat.ble l (u.getD len) && (Nat.ble (u.getD len) len || (Nat.beq b.ver ver && !b.mp && Nat.beq off 0 && Nat.blt 0 sz && Nat.ble (u.getD len) b.ch.length)) && Nat.beq b.sz sz then some (.own id ver (off + l) (u.getD len - l), [id]) else none
    | none => none
  | _ => none
def sliceArgs (lo hi : Bool) : List DV → Option (DL × Nat × Option Nat)
  | [.one x] => bif lo || hi then none else some (x, 0, none)
  | [.one x, .one (.p (.int _ (.ofNat a)))] => match lo, hi with
    | true, false => some (x, a, none)
    | false, true => some (x, 0, some a)
    | _, _ => none
  | [.one x, .one (.p (.int _ (.ofNat a))), .one (.p (.int _ (.ofNat b)))] => bif lo && hi then some (x, a, some b) else none
  | _ => none
def opSlice (sz : Nat) (lo hi : Bool) (h : HF) (vs : List DV) : Option Res :=
  match sliceArgs lo hi vs with
  | some (x, l, u) => match sliceIn sz h x l u with
    | some (d, rd) => some ⟨.one d, [], [], rd⟩
    | none => none
  | none => none
/-- A slice with a bound of its capacity: what it gives is not looked at. -/
def opSlice3 : List DV → Option Res
  | [.one (.own _ _ _ len), .one (.p (.int _ (.ofNat a))), .one (.p (.int _ (.ofNat b))), .one (.p (.int _ (.ofNat c)))] =>
    bif Nat.ble a b && Nat.ble b c && Nat.ble c len then some (.pure (.one (.p .junk))) else none
  | _ => none
def opExtract (n : Nat) : List DV → Option Res
  | [.tup vs] => match vs[n]? with
    | some v => some (.pure v)
    | none => none
  | _ => none
def opLen : List DV → Option Res
  | [.one (.p .nilS)] => some (.pure (.one (.p (.int .i64 (.ofNat 0)))))
  | [.one (.p (.lst es))] => some (.pure (.one (.p (.int .i64 (.ofNat es.length)))))
  | [.one (.own _ _ _ len)] => some (.pure (.one (.p (.int .i64 (.ofNat len)))))
  | _ => none
def opLenA (n : Nat) : List DV → Option Res
  | [_] => some (.pure (.one (.p (.int .i64 (.ofNat n)))))
  | _ => none
def appendNil (e sz bytes n : Nat) (new : List (List DL)) (ids : List Nat) : Option Res :=
  bif Nat.ble (new.length * bytes) lim && Nat.ble new.length 9223372036854775807 then
    match new with
    | [] => some ⟨.one (.p .nilS), [], [], ids⟩
    | _ => some ⟨.one (.own n 0 0 new.length), [⟨false, 0, sz, new, false, e⟩], [], ids⟩
  else none
def appendOwn (base e sz bytes id ver len : Nat) (b : Blk) (new : List (List DL)) (ids : List Nat) : Option Res :=
  bif Nat.beq b.ver ver && !b.mp && !b.fz && Nat.beq b.ch.length len && Nat.beq b.sz sz && Nat.beq b.ty e && Nat.ble base id && Nat.ble ((len + new.length) * bytes) lim && Nat.ble (len + new.length) 9223372036854775807 then
    some ⟨.one (.own id (ver + 1) 0 (len + new.length)), [], [(id, { b with ver := ver + 1, ch := b.ch ++ new })], id :: ids⟩
  else none
/-- An append that has its room in the block. -/
def appendIn (base e sz id ver len : Nat) (b : Blk) (new : List (List DL)) (ids : List Nat) : Option Res :=
  bif Nat.beq b.ver ver && !b.mp && !b.fz && Nat.ble (len + new.length) b.ch.length && Nat.beq b.sz sz && Nat.beq b.ty e && Nat.ble base id then
    some ⟨.one (.own id ver 0 (len + new.length)), [], [(id, { b with ch := b.ch.take len ++ new ++ b.ch.drop (len + new.length) })], id :: ids⟩
  else none
def opAppend (base e sz bytes : Nat) (h : HF) (n : Nat) : List DV → Option Res
  | [.one x, .one y] => match chunksOf h y with
    | some (new, ids) => bif new.all (fun c => Nat.beq c.length sz) then
        match x with
        | .p .nilS => appendNil e sz bytes n new ids
        | .own id ver 0 len => match h id with
          | some b => bif Nat.beq b.ch.length len then appendOwn base e sz bytes id ver len b new ids else appendIn base e sz id ver len b new ids
          | none => none
        | _ => none
      else none
    | none => none
  | _ => none
def opMakeSlice (e : Nat) (z : List PL) (bytes n : Nat) : List DV → Option Res
  | [.one (.p (.int _ (.ofNat l))), .one (.p (.int _ (.ofNat c)))] =>
    bif Nat.ble l c && Nat.ble (bytes * c) lim && Nat.ble c 9223372036854775807 then
      some ⟨.one (.own n 0 0 l), [⟨false, 0, z.length, List.replicate l (z.map .p), false, e⟩], [], []⟩
    else none
  | _ => none
def opMax (pickNew : Int → Int → Bool) : List DV → Option Res
  | .one (.p (.int k a)) :: vs => match maxD pickNew k a vs with
    | some v => some (.pure v)
    | none => none
  | _ => none
def copyIn (base sz id ver off len : Nat) (b : Blk) (new : List (List DL)) (ids : List Nat) : Option Res :=
  bif Nat.beq b.ver ver && !b.mp && !b.fz && Nat.beq b.sz sz && Nat.ble (off + len) b.ch.length && new.all (fun c => Nat.beq c.length sz) && (Nat.ble base id || new.all allPure) then
    some ⟨.one (.p (.int .i64 (.ofNat (Nat.min len new.length)))), [], [(id, { b with ch := b.ch.take off ++ new.take len ++ b.ch.drop (off + Nat.min len new.length) })], id :: ids⟩
  else none
def opCopy (base sz : Nat) (h : HF) : List DV → Option Res
  | [.one (.own id ver off len), .one y] => match h id with
    | some b => match chunksOf h y with
      | some (new, ids) => copyIn base sz id ver off len b new ids
      | none => none
    | none => none
  | _ => none
/-- All elements of a slice become zero. -/
def opClear (base : Nat) (z : List PL) (h : HF) : List DV → Option Res
  | [.one (.own id ver off len)] => match h id with
    | some b => bif Nat.beq b.ver ver && !b.mp && !b.fz && Nat.beq b.sz z.length && Nat.ble (off + len) b.ch.length && Nat.ble base id then
        some ⟨.tup [], [], [(id, { b with ch := b.ch.take off ++ List.replicate len (z.map .p) ++ b.ch.drop (off + len) })], [id]⟩
      else none
    | none => none
  | _ => none
def aggN (agg : Bool) : Nat := bif agg then 1 else 0
def opMakeMap (klen : Nat) (agg : Bool) (n : Nat) : List DV → Option Res
  | [] => some ⟨.one (.mp n), [⟨false, 0, klen, [], true, aggN agg⟩], [], []⟩
  | _ => none
def foundV (klen : Nat) (agg : Bool) (z : List PL) : Option (Nat × List DL) → Option DV
  | some (_, c) => asVal agg (c.drop klen)
  | none => asVal agg (z.map .p)
def lookIn (klen : Nat) (k : IntKind) (agg : Bool) (z : List PL) (ok : Bool) (id : Nat) (b : Blk) (kc : List DL) : Option Res :=
  bif b.mp && Nat.beq b.sz klen && Nat.beq kc.length klen && Nat.beq b.ty (aggN agg) && (eqInts k kc kc).isSome then
    match findC k klen kc b.ch 0 with
    | some r => match foundV klen agg z r with
      | some v => some ⟨bif ok then .tup [v, .one (.p (.bool r.isSome))] else v, [], [], [id]⟩
      | none => none
    | none => none
  else none
def opLookup (klen : Nat) (k : IntKind) (agg : Bool) (z : List PL) (ok : Bool) (h : HF) : List DV → Option Res
  | [.one (.mp id), .agg kc] => match h id with
    | some b => lookIn klen k agg z ok id b kc
    | none => none
  | _ => none
def DV.isAgg : DV → Bool
  | .agg _ => true
  | _ => false
def updIn (klen : Nat) (k : IntKind) (id : Nat) (b : Blk) (kc xc : List DL) : Option Res :=
  match findC k klen kc b.ch 0 with
  | some (some (i, _)) => some ⟨.tup [], [], [(id, { b with ch := b.ch.set i (kc ++ xc) })], [id]⟩
  | some none => some ⟨.tup [], [], [(id, { b with ch := b.ch ++ [kc ++ xc] })], [id]⟩
  | none => none
def opMapUpdate (klen : Nat) (k : IntKind) (agg : Bool) (vsz : Nat) (h : HF) : List DV → Option Res
  | [.one (.mp id), .agg kc, x] => match h id with
    | some b => match x.cells with
      | some xc => bif b.mp && !b.fz && Nat.beq b.sz klen && Nat.beq kc.length klen && Nat.beq xc.length vsz && Nat.beq b.ty (aggN agg) && (x.isAgg == agg) && (eqInts k kc kc).isSome then
          updIn klen k id b kc xc
        else none
      | none => none
    | none => none
  | _ => none
def opLenMap (h : HF) : List DV → Option Res
  | [.one (.mp id)] => match h id with
    | some b => bif b.mp && !Nat.beq b.ty 2 then some ⟨.one (.p (.int .i64 (.ofNat b.ch.length))), [], [], [id]⟩ else none
    | none => none
  | _ => none
def oneL : DV → Option DL
  | .one l => some l
  | _ => none
def opMakeFunc (f : Nat) (vs : List DV) : Option Res :=
  match mapO oneL vs with
  | some caps => some (.pure (.one (.fn f caps)))
  | none => none
def evPure (E : Oracle) (h : HF) (f : Nat) (vs : List DV) : Option Res :=
  match E.mode f with
  | .pure => match mapO (freezeV1 h) vs with
    | some ps => match E.pure f ps with
      | some r => bif (vs.flatMap (idsV h)).isEmpty || r.scalar then some ⟨inj r, [], [], vs.flatMap (idsV h)⟩
        else some ⟨inj r, [], (vs.flatMap (idsV h)).filterMap (fun id => (h id).map fun b => (id, { b with fz := true })), vs.flatMap (idsV h)⟩
      | none => none
    | none => none
  | _ => none
def opCallV (E : Oracle) (h : HF) : List DV → Option Res
  | .one (.p (.fn f caps)) :: vs => evPure E h (fnF f) (fnA f vs (caps.map fun l => .one (.p l)))
  | .one (.fn f caps) :: vs => evPure E h (fnF f) (fnA f vs (caps.map .one))
  | _ => none

def evOp (E : Oracle) (base : Nat) (op : XOp) (vs : List DV) (h : HF) (n : Nat) : Option Res :=
  match op with
  | .move => opMove vs
  | .nilCheck => opNilCheck vs
  | .pick => opPick vs
  | .box t => opBox t n vs
  | .alloc t z => opAlloc t z n vs
  | .build z places => opBuild z places vs
  | .buildSlice e z len places => opBuildSlice e z len places n vs
  | .load agg sz => opLoad agg sz h vs
  | .store sz => opStore base sz h vs
  | .bin op => opBin op vs
  | .binB neq => opBinB neq vs
  | .binNil neq => opBinNil neq vs
  | .binAgg neq k len => opBinAgg neq k len vs
  | .un op => opUn op vs
  | .conv k => opConv k vs
  | .fieldAddr off => opFieldAddr off vs
  | .indexS sz => opIndexS sz h vs
  | .indexA len sz => opIndexA len sz vs
  | .indexStr => opIndexStr vs
  | .indexV len agg sz => opIndexV len agg sz vs
  | .field agg sz off => opField agg sz off vs
  | .slice sz lo hi => opSlice sz lo hi h vs
  | .extract m => opExtract m vs
  | .len => opLen vs
  | .lenA m => opLenA m vs
  | .append e sz bytes => opAppend base e sz bytes h n vs
  | .makeSlice e z bytes => opMakeSlice e z bytes n vs
  | .max => opMax ltF vs
  | .min => opMax (fun a b => ltF b a) vs
  | .copy _ => none
  | .makeMap klen agg => opMakeMap klen agg n vs
  | .lookup klen k agg z ok => opLookup klen k agg z ok h vs
  | .mapUpdate klen k agg vsz => opMapUpdate klen k agg vsz h vs
  | .lenMap => opLenMap h vs
  | .makeFunc f => opMakeFunc f vs
  | .call f => evPure E h f vs
  | .callV => opCallV E h vs
  | .clear z => opClear base z h vs
  | .slice3 => opSlice3 vs

/-! ## Regions -/

structure St where
  T : List (Nat × DV)
  H : List Blk

/-- The value of a slot. -/
def getT : List (Nat × DV) → Nat → Option DV
  | [], _ => none
  | (t, v) :: T, n => bif Nat.beq t n then some v else getT T n

def XOpd.eval (T : List (Nat × DV)) : XOpd → Option DV
  | .t n => getT T n
  | .c v => some (inj v)

/-! Forms that make the kernel compute at once (each is 'k' at the plain value). -/

def setK {α β : Type} : List α → Nat → α → (List α → β) → β
  | [], _, _, k => k []
  | _ :: xs, 0, v, k => k (v :: xs)
  | x :: xs, n + 1, v, k => setK xs n v fun ys => k (x :: ys)

def appK {α β : Type} : List α → List α → (List α → β) → β
  | [], ys, k => k ys
  | x :: xs, ys, k => appK xs ys fun zs => k (x :: zs)

def natK {β : Type} (n : Nat) (k : Nat → β) : β :=
  match n with
  | 0 => k 0
  | m + 1 => k (m + 1)

def intK {β : Type} (n : Int) (k : Int → β) : β :=
  match n with
  | .ofNat m => natK m fun m => k (.ofNat m)
  | .negSucc m => natK m fun m => k (.negSucc m)

def leafK {β : Type} (l : DL) (k : DL → β) : β :=
  match l with
  | .p (.int i n) => intK n fun n => k (.p (.int i n))
  | .p (.bool b) => match b with
    | true => k (.p (.bool true))
    | false => k (.p (.bool false))
  | .own id ver off len => natK ver fun ver => natK off fun off => natK len fun len => k (.own id ver off len)
  | .ptr id ver i off => natK i fun i => natK off fun off => k (.ptr id ver i off)
  | l => k l

def leavesK {β : Type} : List DL → (List DL → β) → β
  | [], k => k []
  | l :: ls, k => leafK l fun l => leavesK ls fun ls => k (l :: ls)

def valK {β : Type} (v : DV) (k : DV → β) : β :=
  match v with
  | .one l => leafK l fun l => k (.one l)
  | .agg cs => leavesK cs fun cs => k (.agg cs)
  | .tup vs => k (.tup vs)

def applyWr (H : List Blk) : List (Nat × Blk) → List Blk
  | [] => H
  | (id, b) :: ws => applyWr (H.set id b) ws

def putT (T : List (Nat × DV)) (dst : Option Nat) (v : DV) : List (Nat × DV) :=
  match dst with
  | some d => (d, v) :: T
  | none => T

def putK {β : Type} (T : List (Nat × DV)) (dst : Option Nat) (v : DV) (k : List (Nat × DV) → β) : β :=
  match dst with
  | some d => k ((d, v) :: T)
  | none => k T

def wrK {β : Type} (H : List Blk) : List (Nat × Blk) → (List Blk → β) → β
  | [], k => k H
  | (id, b) :: ws, k => setK H id b fun H => wrK H ws k

def alK {β : Type} (H al : List Blk) (k : List Blk → β) : β :=
  match al with
  | [] => k H
  | _ => appK H al k

def addAl (H al : List Blk) : List Blk :=
  match al with
  | [] => H
  | _ => H ++ al

/-- What one operation has read and written. -/
structure Foot where
  i : Nat
  rd : List Nat
  wr : List Nat
  after : List Nat
  lo : Nat
  hi : Nat

def guardOk (T : List (Nat × DV)) : Option (Nat × Bool) → Option Bool
  | none => some true
  | some (t, want) =>
    match getT T t with
    | some (.one (.p (.bool b))) => some (b == want)
    | some (.tup []) => some false
    | _ => none

def HFof (H : List Blk) : HF := fun id => H[id]?

/-- A call that may write the caller's blocks. -/
def evHeapCall (E : Oracle) (dst : Option Nat) (f : Nat) (vs : List DV) (s : St) : Option (St × List Nat × List Nat) :=
  match E.mode f with
  | .heap => match E.heap f vs s.H with
    | some (v, H) => putK s.T dst v fun T => some (⟨T, H⟩, [], [])
    | none => none
  | .pure => none

def isHeapF (E : Oracle) (f : Nat) : Bool :=
  match E.mode f with
  | .pure => false
  | _ => true

def isHeapCall (E : Oracle) (op : XOp) : Bool :=
  match op with
  | .call f => isHeapF E f
  | _ => false

/-- As it stands with its arguments: a call of a function value too. -/
def isHeapOp (E : Oracle) (op : XOp) (vs : List DV) : Bool :=
  match op with
  | .call f => isHeapF E f
  | .callV => match vs with
    | .one (.p (.fn f _)) :: _ => isHeapF E (fnF f)
    | .one (.fn f _) :: _ => isHeapF E (fnF f)
    | _ => false
  | _ => false

def heapCall (E : Oracle) (o : XOper) (vs : List DV) (s : St) : Option (St × List Nat × List Nat) :=
  match o.op with
  | .call f => evHeapCall E o.dst f vs s
  | .callV => match vs with
    | .one (.p (.fn f caps)) :: vs => evHeapCall E o.dst (fnF f) (fnA f vs (caps.map fun l => .one (.p l))) s
    | .one (.fn f caps) :: vs => evHeapCall E o.dst (fnF f) (fnA f vs (caps.map .one)) s
    | _ => none
  | _ => none

def finishOp (o : XOper) (s : St) (r : Res) : Option (St × List Nat × List Nat) :=
  valK r.val fun v => putK s.T o.dst v fun T => wrK s.H r.wr fun H => alK H r.al fun H => some (⟨T, H⟩, r.rd, r.wr.map (·.1))

/-- One operation, in its turn. Where 'heap' is said, calls that write the caller's blocks are let too. -/
def evOper (E : Oracle) (base : Nat) (heap : Bool) (o : XOper) (s : St) : Option (St × List Nat × List Nat) :=
  match guardOk s.T o.guard with
  | none => none
  | some false => putK s.T o.dst (.tup []) fun T => some (⟨T, s.H⟩, [], [])
  | some true =>
    match mapO (XOpd.eval s.T) o.args with
    | none => none
    | some vs => bif heap && isHeapOp E o.op vs then heapCall E o vs s else
      match evOp E base o.op vs (HFof s.H) s.H.length with
      | some r => finishOp o s r
      | none => none

def evOps (E : Oracle) (base : Nat) : List XOper → St → Option St
  | [], s => some s
  | o :: os, s =>
    match evOper E base true o s with
    | some (s, _, _) => evOps E base os s
    | none => none

/-- All numbers below i are in a list. -/
def allBelow (l : List Nat) : Nat → Bool
  | 0 => true
  | i + 1 => l.contains i && allBelow l i

/-- A region that draws its order, run in the order of the text; what each operation touched. A call that writes the caller's blocks is let as the last operation alone, where it comes last in every order. -/
def evOpsD (E : Oracle) (base : Nat) : Nat → List XOper → St → Option (St × List Foot)
  | _, [], s => some (s, [])
  | i, o :: os, s =>
    bif isHeapCall E o.op && !(os.isEmpty && allBelow o.after i) then none else
    match evOper E base (isHeapCall E o.op) o s with
    | some (s1, rd, wr) =>
      match evOpsD E base (i + 1) os s1 with
      | some (s2, fs) => some (s2, ⟨i, rd, wr, o.after, s.H.length, s1.H.length⟩ :: fs)
      | none => none
    | none => none

/-- What one operation writes, another touches only where it reads it surely before; what one operation makes, another touches only surely behind it. -/
def footOk (f g : Foot) : Bool :=
  Nat.beq f.i g.i ||
    (f.wr.all (fun id => !(g.wr.contains id) && (!(g.rd.contains id) || f.after.contains g.i)) &&
     g.rd.all (fun id => !(Nat.ble f.lo id && Nat.blt id f.hi) || g.after.contains f.i) &&
     g.wr.all (fun id => !(Nat.ble f.lo id && Nat.blt id f.hi) || g.after.contains f.i))

def footsOk (fs : List Foot) : Bool :=
  fs.all fun f => (f.wr.isEmpty && Nat.beq f.lo f.hi) || fs.all fun g => footOk f g

def evDraw (E : Oracle) (base : Nat) (ops : List XOper) (s : St) : Option St :=
  match evOpsD E base 0 ops s with
  | some (s, fs) => bif footsOk fs then some s else none
  | none => none

/-- From the i-th on, each operation comes behind all that stand before it. -/
def sureFrom : Nat → List XOper → Bool
  | _, [] => true
  | i, o :: os => allBelow o.after i && sureFrom (i + 1) os

/-- A region that draws its order, with a part at its end that does not. -/
def evDrawS (E : Oracle) (base : Nat) (pre suf : List XOper) (s : St) : Option St :=
  match evDraw E base pre s with
  | some s => evOps E base suf s
  | none => none

/-! ## Code -/

inductive Ex where
  | normal
  | exit (id : Nat)
  | ret

/-- The slots that are kept. -/
def keepT (T : List (Nat × DV)) : List Nat → List (Nat × DV)
  | [] => []
  | k :: ks => match getT T k with
    | some v => (k, v) :: keepT T ks
    | none => keepT T ks

def keepK {β : Type} (T : List (Nat × DV)) : List Nat → (List (Nat × DV) → β) → β
  | [], k => k []
  | n :: ns, k => match getT T n with
    | some v => keepK T ns fun U => k ((n, v) :: U)
    | none => keepK T ns k

def loopN (body : St → Option (Ex × St)) : Nat → St → Option (Ex × St)
  | 0, _ => none
  | k + 1, s =>
    match body s with
    | some (.normal, s) => loopN body k s
    | r => r

def setTs : List Nat → List PV → List (Nat × DV) → Option (List (Nat × DV))
  | [], [], T => some T
  | v :: vs, x :: xs, T => setTs vs xs ((v, inj x) :: T)
  | _, _, _ => none

/-- A range over a function: a round for each yield; each begins with the slots of the loop's start. -/
def roundsN (T : List (Nat × DV)) (body : St → Option (Ex × St)) (vars : List Nat) : List (List PV) → List Blk → Option (Ex × St)
  | [], H => some (.normal, ⟨T, H⟩)
  | xs :: rest, H =>
    match setTs vars xs T with
    | some T1 =>
      match body ⟨T1, H⟩ with
      | some (.normal, s) => roundsN T body vars rest s.H
      | some (.exit id, s) => some (.exit id, ⟨T, s.H⟩)
      | some (.ret, s) => some (.ret, ⟨T, s.H⟩)
      | none => none
    | none => none

/-- No scope and no range over a function. -/
def XCode.flat : XCode → Bool
  | .seq a b => a.flat && b.flat
  | .cond _ a b => a.flat && b.flat
  | .block _ c => c.flat
  | .loop c => c.flat
  | .keep _ c => c.flat
  | .scope _ => false
  | .rfun _ _ _ _ => false
  | _ => true

/-- One round. -/
def roundIn (pre body : St → Option (Ex × St)) (s : St) : Option (Ex × St) :=
  match pre s with
  | some (.normal, s) => body s
  | _ => none

def evCode (E : Oracle) (K base : Nat) : XCode → St → Option (Ex × St)
  | .skip, s => some (.normal, s)
  | .region false ops, s =>
    match evOps E base ops s with
    | some s => some (.normal, s)
    | none => none
  | .region true ops, s =>
    match evDraw E base ops s with
    | some s => some (.normal, s)
    | none => none
  | .regionS pre suf, s =>
    match evDrawS E base pre suf s with
    | some s => some (.normal, s)
    | none => none
  | .seq a b, s =>
    match evCode E K base a s with
    | some (.normal, s) => evCode E K base b s
    | r => r
  | .cond c a b, s =>
    match c.eval s.T with
    | some (.one (.p (.bool true))) => evCode E K base a s
    | some (.one (.p (.bool false))) => evCode E K base b s
    | _ => none
  | .block id c, s =>
    match evCode E K base c s with
    | some (.exit j, s) => bif j == id then some (.normal, s) else some (.exit j, s)
    | r => r
  | .loop c, s => loopN (fun s => evCode E K base c s) K s
  | .keep ks c, s => keepK s.T ks fun T => evCode E K base c ⟨T, s.H⟩
  | .scope c, s => evCode E K base c s
  | .exit id, s => some (.exit id, s)
  | .ret, s => some (.ret, s)
  | .rfun f vars pre body, s =>
    match f.eval s.T with
    | some (.one (.p (.fn f caps))) =>
      match E.iter f caps with
      | some xss => bif pre.flat && body.flat && Nat.blt f bnd then roundsN s.T (roundIn (fun s => evCode E K base pre s) (fun s => evCode E K base body s)) vars xss s.H else none
      | none => none
    | _ => none

/-! ## Functions -/

def loadRes (s : St) : Nat × Option (Bool × Nat) → Option DV
  | (t, none) => getT s.T t
  | (t, some (agg, sz)) =>
    match getT s.T t with
    | some (.one (.ptr id ver i off)) =>
      match s.H[id]? with
      | some b => bif Nat.beq b.ver ver && !b.mp then
          match b.ch[i]? with
          | some c =>
            bif agg then (bif Nat.ble (off + sz) c.length then some (.agg ((c.drop off).take sz)) else none)
            else match c.drop off with
              | d :: _ => some (.one d)
              | [] => none
          | none => none
        else none
      | none => none
    | _ => none

/-- The arguments in their slots. -/
def argsK {β : Type} : List DV → Nat → (List (Nat × DV) → β) → β
  | [], _, k => k []
  | v :: vs, i, k => argsK vs (i + 1) fun T => k ((i, v) :: T)

/-- The body, run from the arguments; the results as they stand at the end. -/
def evBody (E : Oracle) (K : Nat) (xf : XFunc) (args : List DV) (H : List Blk) : Option (List DV × St) :=
  match (bif Nat.ble args.length xf.ntmps then argsK args 0 fun T => evCode E K 0 xf.body ⟨T, H⟩ else none) with
  | some (.normal, s) | some (.ret, s) =>
    match mapO (loadRes s) xf.results with
    | some rs => some (rs, s)
    | none => none
  | _ => none

def packP : List PV → PV
  | [v] => v
  | vs => .tup vs

def evPureF (E : Oracle) (K : Nat) (xf : XFunc) (args : List PV) : Option PV :=
  match evBody E K xf (args.map inj) [] with
  | some (rs, s) =>
    match mapO (freezeV1 (HFof s.H)) rs with
    | some ps => some (packP ps)
    | none => none
  | none => none

def packD : List DV → DV
  | [v] => v
  | vs => .tup vs

def DV.plain : DV → Bool
  | .tup _ => false
  | _ => true

def evHeapF (E : Oracle) (K : Nat) (xf : XFunc) (args : List DV) (H : List Blk) : Option (DV × List Blk) :=
  match evBody E K xf args H with
  | some (rs, s) => bif rs.all DV.plain then some (packD rs, s.H) else none
  | none => none

/-- The interpreter over a table of functions, one level above an oracle; where the table has no function the oracle itself is asked. -/
def lift (X : Nat → Option XFunc) (K : Nat) (E : Oracle) : Oracle :=
  ⟨E.mode,
   fun f args => match X f with
    | some xf => evPureF E K xf args
    | none => E.pure f args,
   fun f args H => match X f with
    | some xf => evHeapF E K xf args H
    | none => E.heap f args H,
   E.iter⟩

/-- The interpreter at depth n above a base oracle. -/
def ev (E0 : Oracle) (X : Nat → Option XFunc) (K : Nat) : Nat → Oracle
  | 0 => E0
  | n + 1 => lift X K (ev E0 X K n)

end Go.Ev
