/- The translation of the model's code into the small instruction set. Nothing is proved here. -/
import Derived.Test.YtidginchkjhobaaGreatEvDef
namespace Go.Ev

def litL : Value → Option PL
  | .bool b => some (.bool b)
  | .int k n => some (.int k n)
  | .slice none 0 0 => some .nilS
  | .string s => some (.str (s.data.toList.map UInt8.toNat))
  | .nilFunc => some .junk
  | .nilIface => some .junk
  | .pointer none => some .junk
  | _ => none

def litV : Value → Option PV
  | .agg cs => match mapO litL cs.toList with
    | some ls => some (.agg ls)
    | none => none
  | .tuple vs => if vs.isEmpty then some (.tup []) else none
  | v => match litL v with
    | some l => some (.one l)
    | none => none

/-- The zero cells of a type. -/
def zeroOf (P : Program) (t : TypeId) : Option (List PL) :=
  match P.info? t with
  | some i => match i.zero with
    | some z => match mapO litL z.cells.toList with
      | some ls => if ls.length == i.size then some ls else none
      | none => none
    | none => none
  | none => none

def sizeOfT (P : Program) (t : TypeId) : Option Nat := (P.info? t).map (·.size)
def bytesOfT (P : Program) (t : TypeId) : Option Nat := (P.info? t).map (·.bytes)

def aggT (P : Program) (t : TypeId) : Option Bool :=
  match P.underlying t with
  | some (.struct _) => some true
  | some (.array _ _) => some true
  | some _ => some false
  | none => none

/-- Is the zero value of a type an aggregate, or one cell? -/
def zeroKind (P : Program) (t : TypeId) : Option Bool :=
  match P.info? t with
  | some i => match i.zero with
    | some (.agg _) => some true
    | some v => if v.oneCell' then some false else none
    | none => none
  | none => none

def compOpd : Operand → Option XOpd
  | .tmp t => some (.t t)
  | .const v => match litV v with
    | some l => some (.c l)
    | none => none
  | .func f => if Nat.blt f bnd then some (.c (.one (.fn f []))) else none
  | .global _ => none

def compOpds (a : Array Operand) : Option (List XOpd) := mapO compOpd a.toList

def boundOpds : Option Operand → Option (List XOpd)
  | none => some []
  | some x => match compOpd x with
    | some y => some [y]
    | none => none

/-- A key type: a row of integers of one kind. -/
def keyOfT (P : Program) (t : TypeId) : Option (Nat × IntKind) :=
  match P.underlying t with
  | some (.array n e) => match P.underlying e, sizeOfT P e with
    | some (.int k), some 1 => some (n, k)
    | _, _ => none
  | _ => none

def compBuiltin (P : Program) (b : Builtin) (ts : Array TypeId) : Option XOp :=
  match b with
  | .len => match ts[0]? with
    | some t => match P.underlying t with
      | some (.slice _) => some .len
      | some (.array n _) => some (.lenA n)
      | some (.map _ _) => some .lenMap
      | _ => none
    | none => none
  | .append => match ts.toList with
    | [t, u] => if t == u then
        match P.underlying t with
        | some (.slice e) => match zeroOf P e, bytesOfT P e with
          | some z, some b => if 0 < z.length then some (.append e z.length b) else none
          | _, _ => none
        | _ => none
      else none
    | _ => none
  | .copy => match ts.toList with
    | [t, u] => if t == u then
        match P.underlying t with
        | some (.slice e) => match sizeOfT P e with
          | some (n + 1) => some (.copy (n + 1))
          | _ => none
        | _ => none
      else none
    | _ => none
  | .clear => match ts.toList with
    | [t] => match P.underlying t with
      | some (.slice e) => match zeroOf P e with
        | some z => if 0 < z.length then some (.clear z) else none
        | none => none
      | _ => none
    | _ => none
  | .max => some .max
  | .min => some .min
  | _ => none

def compOp (P : Program) (o : Op) : Option (XOp × List XOpd) :=
  match o with
  | .move x | .assign x => match compOpd x with
    | some x => some (.move, [x])
    | none => none
  | .nilCheck x => match compOpd x with
    | some x => some (.nilCheck, [x])
    | none => none
  | .pick c a b => match compOpd c, compOpd a, compOpd b with
    | some c, some a, some b => some (.pick, [c, a, b])
    | _, _, _ => none
  | .box t x => match compOpd x with
    | some x => some (.box t, [x])
    | none => none
  | .alloc t => match zeroOf P t with
    | some z => some (.alloc t z, [])
    | none => none
  | .build t parts =>
    match zeroOf P t, mapO (fun x => compOpd x.2) parts.toList with
    | some z, some xs =>
      match P.underlying t with
      | some (.struct fs) =>
        match mapO (fun f : Field => match sizeOfT P f.type with | some s => some (f.offset, s) | none => none) fs.toList with
        | some places => match mapO (fun x : Nat × Operand => places[x.1]?) parts.toList with
          | some pl => some (.build z pl, xs)
          | none => none
        | none => none
      | some (.array _ e) => match sizeOfT P e with
        | some s => some (.build z (parts.toList.map fun x => (x.1 * s, s)), xs)
        | none => none
      | _ => none
    | _, _ => none
  | .buildSlice t len parts =>
    match P.underlying t with
    | some (.slice e) =>
      match zeroOf P e, mapO (fun x => compOpd x.2) parts.toList with
      | some z, some xs => if 0 < z.length && Nat.ble (len * z.length) 16777216 then some (.buildSlice e z len (parts.toList.map (·.1)), xs) else none
      | _, _ => none
    | _ => none
  | .load t x => match aggT P t, sizeOfT P t, compOpd x with
    | some a, some s, some x => some (.load a s, [x])
    | _, _, _ => none
  | .store t a x => match sizeOfT P t, compOpd a, compOpd x with
    | some s, some a, some x => some (.store s, [a, x])
    | _, _, _ => none
  | .binOp op t x y _ =>
    match compOpd x, compOpd y with
    | some x, some y =>
      match P.underlying t with
      | some (.int _) => some (.bin op, [x, y])
      | some .bool => match op with
        | .eql => some (.binB false, [x, y])
        | .neq => some (.binB true, [x, y])
        | _ => none
      | some (.slice _) => match op with
        | .eql => some (.binNil false, [x, y])
        | .neq => some (.binNil true, [x, y])
        | _ => none
      | some (.array n e) => match P.underlying e, sizeOfT P e, P.eqGuardType P.depth t with
        | some (.int k), some 1, false => match op with
          | .eql => some (.binAgg false k n, [x, y])
          | .neq => some (.binAgg true k n, [x, y])
          | _ => none
        | _, _, _ => none
      | _ => none
    | _, _ => none
  | .unOp op _ x => match compOpd x with
    | some x => some (.un op, [x])
    | none => none
  | .convert s d x => match P.underlying s, P.underlying d, compOpd x with
    | some _, some (.int k), some x => some (.conv k, [x])
    | _, _, _ => none
  | .makeFunc (.func f) first caps => if first.isEmpty then
      match compOpds caps with
      | some cs => if Nat.blt f bnd then some (.makeFunc f, cs) else none
      | none => none
    else if caps.isEmpty then
      match compOpds first with
      | some cs => some (.makeFunc (f + bnd), cs)
      | none => none
    else none
  | .makeSlice t l c =>
    match P.underlying t with
    | some (.slice e) => match zeroOf P e, bytesOfT P e, compOpd l, compOpd c with
      | some z, some b, some l, some c => if 0 < z.length then some (.makeSlice e z b, [l, c]) else none
      | _, _, _, _ => none
    | _ => none
  | .slice t x lo hi none =>
    match P.underlying t with
    | some (.slice e) => match compOpd x, boundOpds lo, boundOpds hi, sizeOfT P e with
      | some x, some l, some h, some s => some (.slice s lo.isSome hi.isSome, x :: (l ++ h))
      | _, _, _, _ => none
    | _ => none
  | .slice t x (some lo) (some hi) (some mx) =>
    match P.underlying t with
    | some (.slice e) => match compOpd x, compOpd lo, compOpd hi, compOpd mx, sizeOfT P e with
      | some x, some l, some h, some m, some _ => some (.slice3, [x, l, h, m])
      | _, _, _, _, _ => none
    | _ => none
  | .fieldAddr s x f => match P.underlying s with
    | some (.struct fs) => match fs[f]? with
      | some fl => match sizeOfT P fl.type, compOpd x with
        | some (_ + 1), some x => some (.fieldAddr fl.offset, [x])
        | _, _ => none
      | none => none
    | _ => none
  | .field s x f => match P.underlying s with
    | some (.struct fs) => match fs[f]? with
      | some fl => match aggT P fl.type, sizeOfT P fl.type, compOpd x with
        | some a, some sz, some x => some (.field a sz fl.offset, [x])
        | _, _, _ => none
      | none => none
    | _ => none
  | .indexAddr t x i => match P.underlying t, compOpd x, compOpd i with
    | some (.slice e), some x, some i => match sizeOfT P e with
      | some s => some (.indexS s, [x, i])
      | none => none
    | some (.array n e), some x, some i => match sizeOfT P e with
      | some s => some (.indexA n s, [x, i])
      | none => none
    | _, _, _ => none
  | .index t x i => match P.underlying t, compOpd x, compOpd i with
    | some .string, some x, some i => some (.indexStr, [x, i])
    | some (.array n e), some x, some i => match aggT P e, sizeOfT P e with
      | some a, some s => some (.indexV n a s, [x, i])
      | _, _ => none
    | _, _, _ => none
  | .makeMap t none => match P.underlying t with
    | some (.map k e) => match keyOfT P k, zeroKind P e with
      | some (n, _), some a => some (.makeMap n a, [])
      | _, _ => none
    | _ => none
  | .lookup t x i ok => match P.underlying t with
    | some (.map k e) => match keyOfT P k, zeroKind P e, zeroOf P e, compOpd x, compOpd i with
      | some (n, kk), some a, some z, some x, some i => some (.lookup n kk a z ok, [x, i])
      | _, _, _, _, _ => none
    | _ => none
  | .mapUpdate t m k x => match P.underlying t with
    | some (.map kt e) => match keyOfT P kt, zeroKind P e, sizeOfT P e, compOpd m, compOpd k, compOpd x with
      | some (n, kk), some a, some s, some m, some k, some x => some (.mapUpdate n kk a s, [m, k, x])
      | _, _, _, _, _, _ => none
    | _ => none
  | .extract x n => match compOpd x with
    | some x => some (.extract n, [x])
    | none => none
  | .call c => match compOpds c.args with
    | some xs =>
      match c.callee with
      | .builtin b => match compBuiltin P b c.argTypes with
        | some op => some (op, xs)
        | none => none
      | .value (.func f) => some (.call f, xs)
      | .value x => match compOpd x with
        | some x => some (.callV, x :: xs)
        | none => none
      | .invoke _ _ => none
    | none => none
  | _ => none

/-- The slot that an operation writes is there. -/
def dstOk (nt : Nat) : Option Nat → Bool
  | none => true
  | some d => Nat.blt d nt

def compGuard (ops : List Oper) : Option (Nat × Bool) → Option (Option (Nat × Bool))
  | none => some none
  | some (j, want) => match ops[j]? with
    | some g => match g.dst with
      | some d => some (some (d, want))
      | none => none
    | none => none

def compOper (P : Program) (nt : Nat) (ops : List Oper) (o : Oper) : Option XOper :=
  match compOp P o.op with
  | some (op, args) => match compGuard ops o.guard with
    | some g => if dstOk nt o.dst then some ⟨o.dst, op, args, g, (o.after.toList.filter (Region.binds .any)).map (·.on)⟩ else none
    | none => none
  | none => none

def XOpd.tmp : XOpd → List Nat
  | .t n => [n]
  | .c _ => []

def XOper.tmps (o : XOper) : List Nat :=
  o.args.flatMap XOpd.tmp ++ (match o.guard with | some (t, _) => [t] | none => [])

/-- In a region that draws: what one operation writes, another reads only in a fixed order; no slot is written twice; edges lead backwards. -/
def flowOk (ops : List XOper) : Bool :=
  ops.zipIdx.all fun (o, i) =>
    o.after.all (fun j => Nat.blt j i) &&
    ops.zipIdx.all fun (q, j) => i == j ||
      match q.dst with
      | none => true
      | some d => (match o.dst with | some e => d != e | none => true) &&
        (!(o.tmps.contains d) || o.after.contains j || q.after.contains i)

def afterOf (done : List XOper) (j : Nat) : List Nat :=
  match done[j]? with
  | some p => p.after
  | none => []
/-- A list without repetitions. -/
def dd : List Nat → List Nat
  | [] => []
  | x :: xs => bif xs.contains x then dd xs else x :: dd xs
/-- The operations that surely come before, those before them among them. -/
def closeAfter : List XOper → List XOper → List XOper
  | done, [] => done
  | done, o :: os => closeAfter (done ++ [{ o with after := dd (o.after ++ o.after.flatMap (afterOf done)) }]) os

theorem mem_dd (x : Nat) : ∀ l : List Nat, x ∈ dd l ↔ x ∈ l
  | [] => by simp [dd]
  | y :: l => by
    have ih := mem_dd x l
    simp only [dd]
    cases hc : l.contains y with
    | true =>
      have hy : y ∈ l := by simpa using hc
      simp only [cond_true, ih, List.mem_cons]
      exact ⟨.inr, fun h => h.elim (fun e => e ▸ hy) id⟩
    | false => simp only [cond_false, List.mem_cons, ih]

/-- Without what it comes behind. -/
def XOper.bare (o : XOper) : XOper := { o with after := [] }

def compCode (P : Program) (nt : Nat) : Code → Option XCode
  | .skip => some .skip
  | .region _ ops draws =>
    match mapO (compOper P nt ops.toList) ops.toList with
    | some os => if draws then (if flowOk (closeAfter [] os) then some (.region true (closeAfter [] os)) else none) else some (.region false (os.map XOper.bare))
    | none => none
  | .seq a b => match compCode P nt a, compCode P nt b with
    | some a, some b => some (.seq a b)
    | _, _ => none
  | .cond c a b => match compOpd c, compCode P nt a, compCode P nt b with
    | some c, some a, some b => some (.cond c a b)
    | _, _, _ => none
  | .block id c => match compCode P nt c with
    | some c => some (.block id c)
    | none => none
  | .loop c => match compCode P nt c with
    | some c => some (.loop c)
    | none => none
  | .exit id => some (.exit id)
  | .ret => some .ret
  | .scope c => match compCode P nt c with
    | some c => some (.scope c)
    | none => none
  | .label _ => some .skip
  | .rangeFunc f vars pre body => match compOpd f, compCode P nt pre, compCode P nt body with
    | some f, some pre, some body => if vars.toList.all (fun v => Nat.blt v nt) then some (.rfun f vars.toList pre body) else none
    | _, _, _ => none
  | _ => none

def compRes (P : Program) : ResultVar → Option (Nat × Option (Bool × Nat))
  | .tmp t => some (t, none)
  | .cell a t => match aggT P t, sizeOfT P t with
    | some g, some s => some (a, some (g, s))
    | _, _ => none

def compFunc (P : Program) (fn : Func) : Option XFunc :=
  if fn.name == "runtime.NumGoroutine" then none else
  match fn.body with
  | some c => match compCode P fn.ntmps c, mapO (compRes P) fn.results.toList with
    | some c, some rs => some ⟨fn.ntmps, rs, c⟩
    | _, _ => none
  | none => none

/-- The code without its masks. -/
def XCode.erase : XCode → XCode
  | .seq a b => .seq a.erase b.erase
  | .cond c a b => .cond c a.erase b.erase
  | .block id c => .block id c.erase
  | .loop c => .loop c.erase
  | .keep _ c => c.erase
  | .scope c => .scope c.erase
  | .rfun f vs a b => .rfun f vs a.erase b.erase
  | .regionS pre suf => bif sureFrom pre.length suf then .region true (pre ++ suf) else .keep [] .skip
  | c => c

end Go.Ev
