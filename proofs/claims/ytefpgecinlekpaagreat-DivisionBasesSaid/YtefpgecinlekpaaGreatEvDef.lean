/- Definitions: abstract values, a small instruction set with all sizes resolved, and a deterministic interpreter over abstract values. Nothing is proved here. -/
import Derived.Test.YtefpgecinlekpaaGreatZ
import Derived.WalkKit
namespace Go.Ev
inductive PL where
 |bool (b:Bool)
 |int (k:IntKind) (n:Int)
 |nilS
 |lst (es:List (List PL))
 |ref (cs:List PL)
 |fn (f:Nat) (caps:List PL)
 |str (bs:List Nat)
 |junk
inductive DL where
 |p (l:PL)
 |own (id ver off len:Nat)
 |ptr (id ver i off:Nat)
 |fn (f:Nat) (caps:List DL)
 |mp (id:Nat)
inductive PV where
 |one (l:PL)
 |agg (cs:List PL)
 |tup (vs:List PV)
inductive DV where
 |one (l:DL)
 |agg (cs:List DL)
 |tup (vs:List DV)
structure Blk where
 fz:Bool
 ver:Nat
 sz:Nat
 ch:List (List DL)
 mp:Bool
 ty:Nat
inductive XOpd where
 |t (n:Nat)
 |c (v:PV)
inductive XOp where
 |move
 |nilCheck
 |pick
 |box (t:Nat)
 |alloc (t:Nat) (z:List PL)
 |build (z:List PL) (places:List (Nat×Nat))
 |buildSlice (e:Nat) (z:List PL) (len:Nat) (places:List Nat)
 |load (agg:Bool) (sz:Nat)
 |store (sz:Nat)
 |bin (op:BinOp)
 |binB (neq:Bool)
 |binNil (neq:Bool)
 |binAgg (neq:Bool) (k:IntKind) (len:Nat)
 |un (op:UnOp)
 |conv (k:IntKind)
 |fieldAddr (off:Nat)
 |indexS (sz:Nat)
 |indexA (len sz:Nat)
 |indexStr
 |indexV (len:Nat) (agg:Bool) (sz:Nat)
 |field (agg:Bool) (sz off:Nat)
 |slice (sz:Nat) (lo hi:Bool)
 |extract (n:Nat)
 |len
 |lenA (n:Nat)
 |append (e sz bytes:Nat)
 |makeSlice (e:Nat) (z:List PL) (bytes:Nat)
 |max
 |min
 |copy (sz:Nat)
 |makeMap (klen:Nat) (agg:Bool)
 |lookup (klen:Nat) (k:IntKind) (agg:Bool) (z:List PL) (ok:Bool)
 |mapUpdate (klen:Nat) (k:IntKind) (agg:Bool) (vsz:Nat)
 |lenMap
 |makeFunc (f:Nat)
 |call (f:Nat)
 |callV
 |clear (z:List PL)
 |slice3
structure XOper where
 dst:Option Nat
 op:XOp
 args:List XOpd
 guard:Option (Nat×Bool)
 after:List Nat
inductive XCode where
 |skip
 |region (draws:Bool) (ops:List XOper)
 |regionS (pre suf:List XOper)
 |seq (a b:XCode)
 |cond (c:XOpd) (a b:XCode)
 |block (id:Nat) (c:XCode)
 |loop (c:XCode)
 |keep (ks:List Nat) (c:XCode)
 |scope (c:XCode)
 |exit (id:Nat)
 |ret
 |rfun (f:XOpd) (vars:List Nat) (pre body:XCode)
abbrev cI (n:Nat):PL:=.int .i64 (.ofNat n)
abbrev cN (n:Nat):PL:=.int .i64 (.negSucc n)
abbrev cW (n:Nat):PL:=.int .u32 (.ofNat n)
abbrev cQ (n:Nat):PL:=.int .u64 (.ofNat n)
abbrev cB (n:Nat):PL:=.int .u8 (.ofNat n)
abbrev cC (n:Nat):XOpd:=.c (.one (.int .i64 (.ofNat n)))
abbrev cF:XOpd:=.c (.one (.bool false))
abbrev cT:XOpd:=.c (.one (.bool true))
abbrev oP (d:Nat)(op:XOp)(a:List XOpd):XOper:=⟨some d,op,a,none,[]⟩
abbrev oA (d:Nat)(op:XOp)(a:List XOpd)(af:List Nat):XOper:=⟨some d,op,a,none,af⟩
abbrev oG (d:Nat)(op:XOp)(a:List XOpd)(g:Nat)(b:Bool)(af:List Nat):XOper:=⟨some d,op,a,some (g,b),af⟩
abbrev oN (op:XOp)(a:List XOpd)(af:List Nat):XOper:=⟨none,op,a,none,af⟩
abbrev mV (d t:Nat):XOper:=⟨some d,.move,[.t t],none,[]⟩
abbrev mA (d t:Nat)(af:List Nat):XOper:=⟨some d,.move,[.t t],none,af⟩
abbrev mC (d:Nat)(c:XOpd):XOper:=⟨some d,.move,[c],none,[]⟩
abbrev rG:List XOper->XCode:=.region false
abbrev rD:List XOper->XCode:=.region true
abbrev sQ:XCode->XCode->XCode:=.seq
structure XFunc where
 ntmps:Nat
 results:List (Nat×Option (Bool×Nat))
 body:XCode
def bnd:Nat:=1000
def fnF (f:Nat):Nat:=bif Nat.blt f bnd then f else f-bnd
def fnA {α:Type}(f:Nat)(vs caps:List α):List α:=bif Nat.blt f bnd then vs++caps else caps++vs
def inj1:PV->DV
 | .one l=>.one (.p l)
 | .agg cs=>.agg (cs.map .p)
 | .tup _=>.tup []
def inj:PV->DV
 | .one l=>.one (.p l)
 | .agg cs=>.agg (cs.map .p)
 | .tup vs=>.tup (vs.map inj1)
def DV.cells:DV->Option (List DL)
 | .one l=>some [l]
 | .agg cs=>some cs
 | .tup _=>none
abbrev HF:=Nat->Option Blk
def Xl {α β:Type}(f:α->Option β):List α->Option (List β)
 |[]=>some []
 |x::xs=>match f x with
  |none=>none
  |some y=>match Xl f xs with
   |none=>none
   |some ys=>some (y::ys)
def Xn:Nat->HF->DL->Option PL
 |_,_,.p l=>some l
 |0,_,_=>none
 |n+1,h,.own id ver off len=>
  match h id with
  |some b=>bif Nat.beq b.ver ver&& !b.mp&&Nat.ble (off+len) b.ch.length then
    match Xl (Xl (Xn n h)) ((b.ch.drop off).take len)with
    |some es=>some (.lst es)
    |none=>none
   else none
  |none=>none
 |n+1,h,.ptr id ver i off=>
  match h id with
  |some b=>bif Nat.beq b.ver ver&& !b.mp then
    match b.ch[i]? with
    |some c=>match Xl (Xn n h) (c.drop off)with
     |some cs=>some (.ref cs)
     |none=>none
    |none=>none
   else none
  |none=>none
 |n+1,h,.fn f caps=>match Xl (Xn n h) caps with
  |some cs=>some (.fn f cs)
  |none=>none
 |_+1,_,.mp _=>none
def Wt:Nat->HF->DL->List Nat
 |_,_,.p _=>[]
 |0,_,_=>[]
 |n+1,h,.own id _ off len=>
  match h id with
  |some b=>id::((b.ch.drop off).take len).flatMap fun c=>c.flatMap (Wt n h)
  |none=>[]
 |n+1,h,.ptr id _ i off=>
  match h id with
  |some b=>match b.ch[i]? with
   |some c=>id::(c.drop off).flatMap (Wt n h)
   |none=>[]
  |none=>[]
 |n+1,h,.fn _ caps=>caps.flatMap (Wt n h)
 |_+1,_,.mp _=>[]
def XM:Nat:=6
def Xw (h:HF):DV->Option PV
 | .one l=>match Xn XM h l with
   |some l=>some (.one l)
   |none=>none
 | .agg cs=>match Xl (Xn XM h) cs with
   |some cs=>some (.agg cs)
   |none=>none
 | .tup _=>none
def freezeV (h:HF):DV->Option PV
 | .tup vs=>match Xl (Xw h) vs with
   |some vs=>some (.tup vs)
   |none=>none
 |v=>Xw h v
def UC (h:HF):DV->List Nat
 | .one l=>Wt XM h l
 | .agg cs=>cs.flatMap (Wt XM h)
 | .tup _=>[]
def PL.scalar:PL->Bool
 | .bool _=>true
 | .int _ _=>true
 | .nilS=>true
 | .str _=>true
 | .junk=>true
 |_=>false
def PV.scalar1:PV->Bool
 | .one l=>l.scalar
 | .agg cs=>cs.all PL.scalar
 | .tup vs=>vs.isEmpty
def PV.scalar:PV->Bool
 | .tup vs=>vs.all PV.scalar1
 |v=>v.scalar1
structure Res where
 val:DV
 al:List Blk
 wr:List (Nat×Blk)
 rd:List Nat
def Res.pure (v:DV):Res:=⟨v,[],[],[]⟩
inductive Mode where
 |pure
 |heap
structure Oracle where
 mode:Nat->Mode
 pure:Nat->List PV->Option PV
 heap:Nat->List DV->List Blk->Option (DV×List Blk)
 iter:Nat->List PL->Option (List (List PV))
def kidx:IntKind->Nat
 | .i8=>0
 | .i16=>1
 | .i32=>2
 | .i64=>3
 | .u8=>4
 | .u16=>5
 | .u32=>6
 | .u64=>7
def keq (a b:IntKind):Bool:=Nat.beq (kidx a) (kidx b)
def kbits:IntKind->Nat
 | .i8=>8
 | .i16=>16
 | .i32=>32
 | .i64=>64
 | .u8=>8
 | .u16=>16
 | .u32=>32
 | .u64=>64
def Tm:IntKind->Nat
 | .i8=>256
 | .i16=>65536
 | .i32=>4294967296
 | .i64=>18446744073709551616
 | .u8=>256
 | .u16=>65536
 | .u32=>4294967296
 | .u64=>18446744073709551616
def ksigned:IntKind->Bool
 | .i8=>true
 | .i16=>true
 | .i32=>true
 | .i64=>true
 |_=>false
def X7 (k:IntKind):Int->Nat
 | .ofNat m=>m%Tm k
 | .negSucc m=>(Tm k-1)-m%Tm k
def VA (k:IntKind)(r:Nat):Int:=
 bif ksigned k&&Nat.ble (Tm k / 2) r then Int.negSucc (Tm k-r-1)else Int.ofNat r
def Xd (k:IntKind)(n:Int):Int:=VA k (X7 k n)
def ltF:Int->Int->Bool
 | .ofNat a,.ofNat b=>Nat.blt a b
 | .ofNat _,.negSucc _=>false
 | .negSucc _,.ofNat _=>true
 | .negSucc a,.negSucc b=>Nat.blt b a
def eqF:Int->Int->Bool
 | .ofNat a,.ofNat b=>Nat.beq a b
 | .negSucc a,.negSucc b=>Nat.beq a b
 |_,_=>false
def leF (a b:Int):Bool:= !ltF b a
def shrF (a:Int)(n:Nat):Int:=
 match a with
 | .ofNat m=>.ofNat (m / 2^n)
 | .negSucc m=>.negSucc (m / 2^n)
def UD (k:IntKind)(n:Int):Option DL:=some (.p (.int k n))
def Uz (b:Bool):Option DL:=some (.p (.bool b))
def binShl (k:IntKind)(a:Int):Int->Option DL
 | .ofNat n=>UD k (Xd k (a*Int.ofNat (2^(Nat.min n (kbits k)))))
 | .negSucc _=>none
def Sf (k:IntKind)(a:Int):Int->Option DL
 | .ofNat n=>UD k (shrF a (Nat.min n (kbits k)))
 | .negSucc _=>none
def Ua (k:IntKind)(a b:Int):Option DL:=bif eqF b 0 then none else UD k (Xd k (Int.tdiv a b))
def V0 (k:IntKind)(a b:Int):Option DL:=bif eqF b 0 then none else UD k (Int.tmod a b)
def WQ (k k':IntKind)(r:Option DL):Option DL:=bif keq k k' then r else none
def XY (op:BinOp)(k k':IntKind)(a b:Int):Option DL:=
 match op with
 | .shl=>binShl k a b
 | .shr=>Sf k a b
 | .add=>WQ k k' (UD k (Xd k (a+b)))
 | .sub=>WQ k k' (UD k (Xd k (a-b)))
 | .mul=>WQ k k' (UD k (Xd k (a*b)))
 | .quo=>WQ k k' (Ua k a b)
 | .rem=>WQ k k' (V0 k a b)
 | .and=>WQ k k' (UD k (VA k (Nat.land (X7 k a) (X7 k b))))
 | .or=>WQ k k' (UD k (VA k (Nat.lor (X7 k a) (X7 k b))))
 | .xor=>WQ k k' (UD k (VA k (Nat.xor (X7 k a) (X7 k b))))
 | .andNot=>WQ k k' (UD k (VA k (Nat.land (X7 k a) (Nat.xor (Tm k-1) (X7 k b)))))
 | .eql=>WQ k k' (Uz (eqF a b))
 | .neq=>WQ k k' (Uz (!eqF a b))
 | .lss=>WQ k k' (Uz (ltF a b))
 | .leq=>WQ k k' (Uz (leF a b))
 | .gtr=>WQ k k' (Uz (ltF b a))
 | .geq=>WQ k k' (Uz (leF b a))
def DL.isNil:DL->Option Bool
 | .p .nilS=>some true
 | .p (.lst _)=>some false
 | .own _ _ _ _=>some false
 |_=>none
def XO (k:IntKind):List DL->List DL->Option Bool
 |[],[]=>some true
 | .p (.int k1 a)::xs,.p (.int k2 b)::ys=>
   bif keq k1 k&&keq k2 k then
    match XO k xs ys with
    |some r=>some (eqF a b&&r)
    |none=>none
   else none
 |_,_=>none
def evUn (op:UnOp):DL->Option DL
 | .p (.int k n)=>
   match op with
   | .neg=>some (.p (.int k (Xd k (0-n))))
   | .xor=>some (.p (.int k (VA k (Nat.xor (Tm k-1) (X7 k n)))))
   |_=>none
 | .p (.bool b)=>
   match op with
   | .not=>some (.p (.bool (!b)))
   |_=>none
 |_=>none
def fillD:List DL->List (Nat×Nat)->List DV->Option (List DL)
 |cs,[],[]=>some cs
 |cs,(off,sz)::ps,v::vs=>
  match v.cells with
  |some ds=>bif Nat.beq ds.length sz&&Nat.ble (off+sz) cs.length then fillD (cs.take off++ds++cs.drop (off+sz)) ps vs else none
  |none=>none
 |_,_,_=>none
def fillC (sz:Nat):List (List DL)->List Nat->List DV->Option (List (List DL))
 |cs,[],[]=>some cs
 |cs,i::ps,v::vs=>
  match v.cells with
  |some ds=>bif Nat.beq ds.length sz&&Nat.blt i cs.length then fillC sz (cs.set i ds) ps vs else none
  |none=>none
 |_,_,_=>none
def maxD (pickNew:Int->Int->Bool):IntKind->Int->List DV->Option DV
 |k,a,[]=>some (.one (.p (.int k a)))
 |k,a,.one (.p (.int k' b))::vs=>bif keq k k' then maxD pickNew k (bif pickNew a b then b else a) vs else none
 |_,_,_=>none
def XX (h:HF):DL->Option (List (List DL)×List Nat)
 | .p .nilS=>some ([],[])
 | .p (.lst es)=>some (es.map (·.map .p),[])
 | .own id ver off len=>
   match h id with
   |some b=>bif Nat.beq b.ver ver&& !b.mp&&Nat.ble (off+len) b.ch.length then some ((b.ch.drop off).take len,[id])else none
   |none=>none
 |_=>none
def T9:List DL->Bool
 |[]=>true
 | .p _::cs=>T9 cs
 |_::_=>false
def findC (k:IntKind)(klen:Nat)(key:List DL):List (List DL)->Nat->Option (Option (Nat×List DL))
 |[],_=>some none
 |c::cs,i=>
  match XO k key (c.take klen)with
  |some true=>some (some (i,c))
  |some false=>findC k klen key cs (i+1)
  |none=>none
def asVal (agg:Bool)(cs:List DL):Option DV:=
 bif agg then some (.agg cs)else match cs with
  |[c]=>some (.one c)
  |_=>none
def lim:Nat:=140737488355328
def opMove:List DV->Option Res
 |[x]=>some (.pure x)
 |_=>none
def UH:List DV->Option Res
 |[.one (.ptr id ver i off)]=>some (.pure (.one (.ptr id ver i off)))
 |[.one (.p (.ref cs))]=>some (.pure (.one (.p (.ref cs))))
 |[.one (.fn f cs)]=>some (.pure (.one (.fn f cs)))
 |[.one (.p (.fn f cs))]=>some (.pure (.one (.p (.fn f cs))))
 |_=>none
def opPick:List DV->Option Res
 |[.one (.p (.bool c)),a,b]=>some (.pure (bif c then a else b))
 |_=>none
def opBox (t n:Nat):List DV->Option Res
 |[x]=>match x.cells with
  |some cs=>some ⟨.one (.ptr n 0 0 0),[⟨false,0,cs.length,[cs],false,t⟩],[],[]⟩
  |none=>none
 |_=>none
def TS (t:Nat)(z:List PL)(n:Nat):List DV->Option Res
 |[]=>some ⟨.one (.ptr n 0 0 0),[⟨false,0,z.length,[z.map .p],false,t⟩],[],[]⟩
 |_=>none
def S6 (z:List PL)(places:List (Nat×Nat))(vs:List DV):Option Res:=
 match fillD (z.map .p) places vs with
 |some cs=>some (.pure (.agg cs))
 |none=>none
def WW (e:Nat)(z:List PL)(len:Nat)(places:List Nat)(n:Nat)(vs:List DV):Option Res:=
 match fillC z.length (List.replicate len (z.map .p)) places vs with
 |some cs=>some ⟨.one (.own n 0 0 len),[⟨false,0,z.length,cs,false,e⟩],[],[]⟩
 |none=>none
def Uf (agg:Bool)(sz:Nat)(cs:List DL):Option DV:=
 bif agg then(bif Nat.ble sz cs.length then some (.agg (cs.take sz))else none)
 else match cs with
  |c::_=>some (.one c)
  |[]=>none
def UZ (h:HF)(id ver i:Nat):Option (List DL):=
 match h id with
 |some b=>bif Nat.beq b.ver ver&& !b.mp then b.ch[i]? else none
 |none=>none
def S3 (agg:Bool)(sz:Nat)(h:HF):List DV->Option Res
 |[.one (.p (.ref cs))]=>match Uf agg sz (cs.map .p)with
  |some v=>some (.pure v)
  |none=>none
 |[.one (.ptr id ver i off)]=>match UZ h id ver i with
  |some c=>bif Nat.ble off c.length then
    match Uf agg sz (c.drop off)with
    |some v=>some ⟨v,[],[],[id]⟩
    |none=>none
   else none
  |none=>none
 |_=>none
def SQ (base sz id ver i off:Nat)(b:Blk)(cs:List DL):Option Res:=
 bif Nat.beq b.ver ver&& !b.mp&& !b.fz&&Nat.beq cs.length sz&&(Nat.ble base id||T9 cs)then
  match b.ch[i]? with
  |some c=>bif Nat.ble (off+sz) c.length then some ⟨.tup [],[],[(id,{b with ch:=b.ch.set i (c.take off++cs++c.drop (off+sz))})],[id]⟩else none
  |none=>none
 else none
def TO (base sz:Nat)(h:HF):List DV->Option Res
 |[.one (.ptr id ver i off),x]=>match h id with
  |some b=>match x.cells with
   |some cs=>SQ base sz id ver i off b cs
   |none=>none
  |none=>none
 |_=>none
def opBin (op:BinOp):List DV->Option Res
 |[.one (.p (.int k a)),.one (.p (.int k' b))]=>match XY op k k' a b with
  |some d=>some (.pure (.one d))
  |none=>none
 |_=>none
def opBinB (neq:Bool):List DV->Option Res
 |[.one (.p (.bool a)),.one (.p (.bool b))]=>some (.pure (.one (.p (.bool ((a==b)!=neq)))))
 |_=>none
def nilCmp (neq:Bool)(x y:DL):Option Bool:=
 match x.isNil,y.isNil with
 |some true,some b=>some (b !=neq)
 |some false,some true=>some neq
 |_,_=>none
def WX (neq:Bool):List DV->Option Res
 |[.one x,.one y]=>match nilCmp neq x y with
  |some b=>some (.pure (.one (.p (.bool b))))
  |none=>none
 |_=>none
def WY (neq:Bool)(k:IntKind)(len:Nat):List DV->Option Res
 |[.agg xs,.agg ys]=>bif Nat.beq xs.length len then
   match XO k xs ys with
   |some b=>some (.pure (.one (.p (.bool (b !=neq)))))
   |none=>none
  else none
 |_=>none
def opUn (op:UnOp):List DV->Option Res
 |[.one x]=>match evUn op x with
  |some d=>some (.pure (.one d))
  |none=>none
 |_=>none
def opConv (k:IntKind):List DV->Option Res
 |[.one (.p (.int _ n))]=>some (.pure (.one (.p (.int k (Xd k n)))))
 |_=>none
def Vg (off:Nat):List DV->Option Res
 |[.one (.p (.ref cs))]=>bif Nat.ble off cs.length then some (.pure (.one (.p (.ref (cs.drop off)))))else none
 |[.one (.ptr id ver i o)]=>some (.pure (.one (.ptr id ver i (o+off))))
 |_=>none
def WH (sz:Nat)(h:HF):List DV->Option Res
 |[.one (.p (.lst es)),.one (.p (.int _ (.ofNat i)))]=>match es[i]? with
  |some c=>bif Nat.beq c.length sz then some (.pure (.one (.p (.ref c))))else none
  |none=>none
 |[.one (.own id ver off len),.one (.p (.int _ (.ofNat i)))]=>match h id with
  |some b=>bif Nat.beq b.sz sz&&Nat.blt i len then some ⟨.one (.ptr id ver (off+i) 0),[],[],[id]⟩else none
  |none=>none
 |_=>none
def U7 (len sz:Nat):List DV->Option Res
 |[.one (.p (.ref cs)),.one (.p (.int _ (.ofNat i)))]=>
  bif Nat.blt i len&&Nat.ble (i*sz) cs.length then some (.pure (.one (.p (.ref (cs.drop (i*sz))))))else none
 |[.one (.ptr id ver j o),.one (.p (.int _ (.ofNat i)))]=>
  bif Nat.blt i len then some (.pure (.one (.ptr id ver j (o+i*sz))))else none
 |_=>none
def Us (len:Nat)(agg:Bool)(sz:Nat):List DV->Option Res
 |[.agg cs,.one (.p (.int _ (.ofNat i)))]=>bif Nat.blt i len&&Nat.ble (i*sz) cs.length then
   match Uf agg sz (cs.drop (i*sz))with
   |some v=>some (.pure v)
   |none=>none
  else none
 |_=>none
def W8:List DV->Option Res
 |[.one (.p (.str bs)),.one (.p (.int _ (.ofNat i)))]=>match bs[i]? with
  |some b=>some (.pure (.one (.p (.int .u8 b))))
  |none=>none
 |_=>none
def S4 (agg:Bool)(sz off:Nat):List DV->Option Res
 |[.agg cs]=>bif Nat.ble off cs.length then
   match Uf agg sz (cs.drop off)with
   |some v=>some (.pure v)
   |none=>none
  else none
 |_=>none
def TK (sz:Nat):Option (List PL)->Bool
 |some c=>Nat.beq c.length sz
 |none=>true
def X6 (sz:Nat)(h:HF)(x:DL)(l:Nat)(u:Option Nat):Option (DL×List Nat):=
 match x with
 | .p (.lst es)=>bif Nat.ble l (u.getD es.length)&&Nat.ble (u.getD es.length) es.length&&TK sz es[l]? then some (.p (.lst ((es.take (u.getD es.length)).drop l)),[])else none
 | .p .nilS=>bif Nat.beq l 0&&Nat.beq (u.getD 0) 0 then some (.p .nilS,[])else none
 | .own id ver off len=>match h id with
   |some b=>bif Nat.ble l (u.getD len)&&(Nat.ble (u.getD len) len||(Nat.beq b.ver ver&& !b.mp&&Nat.beq off 0&&Nat.blt 0 sz&&Nat.ble (u.getD len) b.ch.length))&&Nat.beq b.sz sz then some (.own id ver (off+l) (u.getD len-l),[id])else none
   |none=>none
 |_=>none
def WT (lo hi:Bool):List DV->Option (DL×Nat×Option Nat)
 |[.one x]=>bif lo||hi then none else some (x,0,none)
 |[.one x,.one (.p (.int _ (.ofNat a)))]=>match lo,hi with
  |true,false=>some (x,a,none)
  |false,true=>some (x,0,some a)
  |_,_=>none
 |[.one x,.one (.p (.int _ (.ofNat a))),.one (.p (.int _ (.ofNat b)))]=>bif lo&&hi then some (x,a,some b)else none
 |_=>none
def TP (sz:Nat)(lo hi:Bool)(h:HF)(vs:List DV):Option Res:=
 match WT lo hi vs with
 |some (x,l,u)=>match X6 sz h x l u with
  |some (d,rd)=>some ⟨.one d,[],[],rd⟩
  |none=>none
 |none=>none
def Su:List DV->Option Res
 |[.one (.own _ _ _ len),.one (.p (.int _ (.ofNat a))),.one (.p (.int _ (.ofNat b))),.one (.p (.int _ (.ofNat c)))]=>
  bif Nat.ble a b&&Nat.ble b c&&Nat.ble c len then some (.pure (.one (.p .junk)))else none
 |_=>none
def UJ (n:Nat):List DV->Option Res
 |[.tup vs]=>match vs[n]? with
  |some v=>some (.pure v)
  |none=>none
 |_=>none
def TQ:List DV->Option Res
 |[.one (.p .nilS)]=>some (.pure (.one (.p (.int .i64 (.ofNat 0)))))
 |[.one (.p (.lst es))]=>some (.pure (.one (.p (.int .i64 (.ofNat es.length)))))
 |[.one (.own _ _ _ len)]=>some (.pure (.one (.p (.int .i64 (.ofNat len)))))
 |_=>none
def opLenA (n:Nat):List DV->Option Res
 |[_]=>some (.pure (.one (.p (.int .i64 (.ofNat n)))))
 |_=>none
def X8 (e sz bytes n:Nat)(new:List (List DL))(ids:List Nat):Option Res:=
 bif Nat.ble (new.length*bytes) lim&&Nat.ble new.length 9223372036854775807 then
  match new with
  |[]=>some ⟨.one (.p .nilS),[],[],ids⟩
  |_=>some ⟨.one (.own n 0 0 new.length),[⟨false,0,sz,new,false,e⟩],[],ids⟩
 else none
def VX (base e sz bytes id ver len:Nat)(b:Blk)(new:List (List DL))(ids:List Nat):Option Res:=
 bif Nat.beq b.ver ver&& !b.mp&& !b.fz&&Nat.beq b.ch.length len&&Nat.beq b.sz sz&&Nat.beq b.ty e&&Nat.ble base id&&Nat.ble ((len+new.length)*bytes) lim&&Nat.ble (len+new.length) 9223372036854775807 then
  some ⟨.one (.own id (ver+1) 0 (len+new.length)),[],[(id,{b with ver:=ver+1,ch:=b.ch++new})],id::ids⟩
 else none
def Tg (base e sz id ver len:Nat)(b:Blk)(new:List (List DL))(ids:List Nat):Option Res:=
 bif Nat.beq b.ver ver&& !b.mp&& !b.fz&&Nat.ble (len+new.length) b.ch.length&&Nat.beq b.sz sz&&Nat.beq b.ty e&&Nat.ble base id then
  some ⟨.one (.own id ver 0 (len+new.length)),[],[(id,{b with ch:=b.ch.take len++new++b.ch.drop (len+new.length)})],id::ids⟩
 else none
def Wk (base e sz bytes:Nat)(h:HF)(n:Nat):List DV->Option Res
 |[.one x,.one y]=>match XX h y with
  |some (new,ids)=>bif new.all (fun c=>Nat.beq c.length sz)then
    match x with
    | .p .nilS=>X8 e sz bytes n new ids
    | .own id ver 0 len=>match h id with
      |some b=>bif Nat.beq b.ch.length len then VX base e sz bytes id ver len b new ids else Tg base e sz id ver len b new ids
      |none=>none
    |_=>none
   else none
  |none=>none
 |_=>none
def Vf (e:Nat)(z:List PL)(bytes n:Nat):List DV->Option Res
 |[.one (.p (.int _ (.ofNat l))),.one (.p (.int _ (.ofNat c)))]=>
  bif Nat.ble l c&&Nat.ble (bytes*c) lim&&Nat.ble c 9223372036854775807 then
   some ⟨.one (.own n 0 0 l),[⟨false,0,z.length,List.replicate l (z.map .p),false,e⟩],[],[]⟩
  else none
 |_=>none
def Uc (pickNew:Int->Int->Bool):List DV->Option Res
 | .one (.p (.int k a))::vs=>match maxD pickNew k a vs with
   |some v=>some (.pure v)
   |none=>none
 |_=>none
def copyIn (base sz id ver off len:Nat)(b:Blk)(new:List (List DL))(ids:List Nat):Option Res:=
 bif Nat.beq b.ver ver&& !b.mp&& !b.fz&&Nat.beq b.sz sz&&Nat.ble (off+len) b.ch.length&&new.all (fun c=>Nat.beq c.length sz)&&(Nat.ble base id||new.all T9)then
  some ⟨.one (.p (.int .i64 (.ofNat (Nat.min len new.length)))),[],[(id,{b with ch:=b.ch.take off++new.take len++b.ch.drop (off+Nat.min len new.length)})],id::ids⟩
 else none
def S5 (base sz:Nat)(h:HF):List DV->Option Res
 |[.one (.own id ver off len),.one y]=>match h id with
  |some b=>match XX h y with
   |some (new,ids)=>copyIn base sz id ver off len b new ids
   |none=>none
  |none=>none
 |_=>none
def TR (base:Nat)(z:List PL)(h:HF):List DV->Option Res
 |[.one (.own id ver off len)]=>match h id with
  |some b=>bif Nat.beq b.ver ver&& !b.mp&& !b.fz&&Nat.beq b.sz z.length&&Nat.ble (off+len) b.ch.length&&Nat.ble base id then
    some ⟨.tup [],[],[(id,{b with ch:=b.ch.take off++List.replicate len (z.map .p)++b.ch.drop (off+len)})],[id]⟩
   else none
  |none=>none
 |_=>none
def aggN (agg:Bool):Nat:=bif agg then 1 else 0
def UI (klen:Nat)(agg:Bool)(n:Nat):List DV->Option Res
 |[]=>some ⟨.one (.mp n),[⟨false,0,klen,[],true,aggN agg⟩],[],[]⟩
 |_=>none
def foundV (klen:Nat)(agg:Bool)(z:List PL):Option (Nat×List DL)->Option DV
 |some (_,c)=>asVal agg (c.drop klen)
 |none=>asVal agg (z.map .p)
def lookIn (klen:Nat)(k:IntKind)(agg:Bool)(z:List PL)(ok:Bool)(id:Nat)(b:Blk)(kc:List DL):Option Res:=
 bif b.mp&&Nat.beq b.sz klen&&Nat.beq kc.length klen&&Nat.beq b.ty (aggN agg)&&(XO k kc kc).isSome then
  match findC k klen kc b.ch 0 with
  |some r=>match foundV klen agg z r with
   |some v=>some ⟨bif ok then .tup [v,.one (.p (.bool r.isSome))]else v,[],[],[id]⟩
   |none=>none
  |none=>none
 else none
def TE (klen:Nat)(k:IntKind)(agg:Bool)(z:List PL)(ok:Bool)(h:HF):List DV->Option Res
 |[.one (.mp id),.agg kc]=>match h id with
  |some b=>lookIn klen k agg z ok id b kc
  |none=>none
 |_=>none
def DV.isAgg:DV->Bool
 | .agg _=>true
 |_=>false
def updIn (klen:Nat)(k:IntKind)(id:Nat)(b:Blk)(kc xc:List DL):Option Res:=
 match findC k klen kc b.ch 0 with
 |some (some (i,_))=>some ⟨.tup [],[],[(id,{b with ch:=b.ch.set i (kc++xc)})],[id]⟩
 |some none=>some ⟨.tup [],[],[(id,{b with ch:=b.ch++[kc++xc]})],[id]⟩
 |none=>none
def VL (klen:Nat)(k:IntKind)(agg:Bool)(vsz:Nat)(h:HF):List DV->Option Res
 |[.one (.mp id),.agg kc,x]=>match h id with
  |some b=>match x.cells with
   |some xc=>bif b.mp&& !b.fz&&Nat.beq b.sz klen&&Nat.beq kc.length klen&&Nat.beq xc.length vsz&&Nat.beq b.ty (aggN agg)&&(x.isAgg==agg)&&(XO k kc kc).isSome then
     updIn klen k id b kc xc
    else none
   |none=>none
  |none=>none
 |_=>none
def U6 (h:HF):List DV->Option Res
 |[.one (.mp id)]=>match h id with
  |some b=>bif b.mp&& !Nat.beq b.ty 2 then some ⟨.one (.p (.int .i64 (.ofNat b.ch.length))),[],[],[id]⟩else none
  |none=>none
 |_=>none
def oneL:DV->Option DL
 | .one l=>some l
 |_=>none
def Vj (f:Nat)(vs:List DV):Option Res:=
 match Xl oneL vs with
 |some caps=>some (.pure (.one (.fn f caps)))
 |none=>none
def Wc (E:Oracle)(h:HF)(f:Nat)(vs:List DV):Option Res:=
 match E.mode f with
 | .pure=>match Xl (Xw h) vs with
   |some ps=>match E.pure f ps with
    |some r=>bif(vs.flatMap (UC h)).isEmpty||r.scalar then some ⟨inj r,[],[],vs.flatMap (UC h)⟩
     else some ⟨inj r,[],(vs.flatMap (UC h)).filterMap (fun id=>(h id).map fun b=>(id,{b with fz:=true})),vs.flatMap (UC h)⟩
    |none=>none
   |none=>none
 |_=>none
def V6 (E:Oracle)(h:HF):List DV->Option Res
 | .one (.p (.fn f caps))::vs=>Wc E h (fnF f) (fnA f vs (caps.map fun l=>.one (.p l)))
 | .one (.fn f caps)::vs=>Wc E h (fnF f) (fnA f vs (caps.map .one))
 |_=>none
def XG (E:Oracle)(base:Nat)(op:XOp)(vs:List DV)(h:HF)(n:Nat):Option Res:=
 match op with
 | .move=>opMove vs
 | .nilCheck=>UH vs
 | .pick=>opPick vs
 | .box t=>opBox t n vs
 | .alloc t z=>TS t z n vs
 | .build z places=>S6 z places vs
 | .buildSlice e z len places=>WW e z len places n vs
 | .load agg sz=>S3 agg sz h vs
 | .store sz=>TO base sz h vs
 | .bin op=>opBin op vs
 | .binB neq=>opBinB neq vs
 | .binNil neq=>WX neq vs
 | .binAgg neq k len=>WY neq k len vs
 | .un op=>opUn op vs
 | .conv k=>opConv k vs
 | .fieldAddr off=>Vg off vs
 | .indexS sz=>WH sz h vs
 | .indexA len sz=>U7 len sz vs
 | .indexStr=>W8 vs
 | .indexV len agg sz=>Us len agg sz vs
 | .field agg sz off=>S4 agg sz off vs
 | .slice sz lo hi=>TP sz lo hi h vs
 | .extract m=>UJ m vs
 | .len=>TQ vs
 | .lenA m=>opLenA m vs
 | .append e sz bytes=>Wk base e sz bytes h n vs
 | .makeSlice e z bytes=>Vf e z bytes n vs
 | .max=>Uc ltF vs
 | .min=>Uc (fun a b=>ltF b a) vs
 | .copy sz=>S5 base sz h vs
 | .makeMap klen agg=>UI klen agg n vs
 | .lookup klen k agg z ok=>TE klen k agg z ok h vs
 | .mapUpdate klen k agg vsz=>VL klen k agg vsz h vs
 | .lenMap=>U6 h vs
 | .makeFunc f=>Vj f vs
 | .call f=>Wc E h f vs
 | .callV=>V6 E h vs
 | .clear z=>TR base z h vs
 | .slice3=>Su vs
structure St where
 T:List (Nat×DV)
 H:List Blk
def Xf:List (Nat×DV)->Nat->Option DV
 |[],_=>none
 |(t,v)::T,n=>bif Nat.beq t n then some v else Xf T n
def XOpd.eval (T:List (Nat×DV)):XOpd->Option DV
 | .t n=>Xf T n
 | .c v=>some (inj v)
def setK {α β:Type}:List α->Nat->α->(List α->β)->β
 |[],_,_,k=>k []
 |_::xs,0,v,k=>k (v::xs)
 |x::xs,n+1,v,k=>setK xs n v fun ys=>k (x::ys)
def appK {α β:Type}:List α->List α->(List α->β)->β
 |[],ys,k=>k ys
 |x::xs,ys,k=>appK xs ys fun zs=>k (x::zs)
def natK {β:Type}(n:Nat)(k:Nat->β):β:=
 match n with
 |0=>k 0
 |m+1=>k (m+1)
def intK {β:Type}(n:Int)(k:Int->β):β:=
 match n with
 | .ofNat m=>natK m fun m=>k (.ofNat m)
 | .negSucc m=>natK m fun m=>k (.negSucc m)
def leafK {β:Type}(l:DL)(k:DL->β):β:=
 match l with
 | .p (.int i n)=>intK n fun n=>k (.p (.int i n))
 | .p (.bool b)=>match b with
   |true=>k (.p (.bool true))
   |false=>k (.p (.bool false))
 | .own id ver off len=>natK ver fun ver=>natK off fun off=>natK len fun len=>k (.own id ver off len)
 | .ptr id ver i off=>natK i fun i=>natK off fun off=>k (.ptr id ver i off)
 |l=>k l
def leavesK {β:Type}:List DL->(List DL->β)->β
 |[],k=>k []
 |l::ls,k=>leafK l fun l=>leavesK ls fun ls=>k (l::ls)
def valK {β:Type}(v:DV)(k:DV->β):β:=
 match v with
 | .one l=>leafK l fun l=>k (.one l)
 | .agg cs=>leavesK cs fun cs=>k (.agg cs)
 | .tup vs=>k (.tup vs)
def WM (H:List Blk):List (Nat×Blk)->List Blk
 |[]=>H
 |(id,b)::ws=>WM (H.set id b) ws
def putT (T:List (Nat×DV))(dst:Option Nat)(v:DV):List (Nat×DV):=
 match dst with
 |some d=>(d,v)::T
 |none=>T
def putK {β:Type}(T:List (Nat×DV))(dst:Option Nat)(v:DV)(k:List (Nat×DV)->β):β:=
 match dst with
 |some d=>k ((d,v)::T)
 |none=>k T
def wrK {β:Type}(H:List Blk):List (Nat×Blk)->(List Blk->β)->β
 |[],k=>k H
 |(id,b)::ws,k=>setK H id b fun H=>wrK H ws k
def alK {β:Type}(H al:List Blk)(k:List Blk->β):β:=
 match al with
 |[]=>k H
 |_=>appK H al k
def addAl (H al:List Blk):List Blk:=
 match al with
 |[]=>H
 |_=>H++al
structure Foot where
 i:Nat
 rd:List Nat
 wr:List Nat
 after:List Nat
 lo:Nat
 hi:Nat
def VC (T:List (Nat×DV)):Option (Nat×Bool)->Option Bool
 |none=>some true
 |some (t,want)=>
  match Xf T t with
  |some (.one (.p (.bool b)))=>some (b==want)
  |some (.tup [])=>some false
  |_=>none
def Xi (H:List Blk):HF:=fun id=>H[id]?
def Wq (E:Oracle)(dst:Option Nat)(f:Nat)(vs:List DV)(s:St):Option (St×List Nat×List Nat):=
 match E.mode f with
 | .heap=>match E.heap f vs s.H with
   |some (v,H)=>putK s.T dst v fun T=>some (⟨T,H⟩,[],[])
   |none=>none
 | .pure=>none
def Wy (E:Oracle)(f:Nat):Bool:=
 match E.mode f with
 | .pure=>false
 |_=>true
def Xe (E:Oracle)(op:XOp):Bool:=
 match op with
 | .call f=>Wy E f
 |_=>false
def Xr (E:Oracle)(op:XOp)(vs:List DV):Bool:=
 match op with
 | .call f=>Wy E f
 | .callV=>match vs with
   | .one (.p (.fn f _))::_=>Wy E (fnF f)
   | .one (.fn f _)::_=>Wy E (fnF f)
   |_=>false
 |_=>false
def SC (E:Oracle)(o:XOper)(vs:List DV)(s:St):Option (St×List Nat×List Nat):=
 match o.op with
 | .call f=>Wq E o.dst f vs s
 | .callV=>match vs with
   | .one (.p (.fn f caps))::vs=>Wq E o.dst (fnF f) (fnA f vs (caps.map fun l=>.one (.p l))) s
   | .one (.fn f caps)::vs=>Wq E o.dst (fnF f) (fnA f vs (caps.map .one)) s
   |_=>none
 |_=>none
def SD (o:XOper)(s:St)(r:Res):Option (St×List Nat×List Nat):=
 valK r.val fun v=>putK s.T o.dst v fun T=>wrK s.H r.wr fun H=>alK H r.al fun H=>some (⟨T,H⟩,r.rd,r.wr.map (·.1))
def Wi (E:Oracle)(base:Nat)(heap:Bool)(o:XOper)(s:St):Option (St×List Nat×List Nat):=
 match VC s.T o.guard with
 |none=>none
 |some false=>putK s.T o.dst (.tup []) fun T=>some (⟨T,s.H⟩,[],[])
 |some true=>
  match Xl (XOpd.eval s.T) o.args with
  |none=>none
  |some vs=>bif heap&&Xr E o.op vs then SC E o vs s else
   match XG E base o.op vs (Xi s.H) s.H.length with
   |some r=>SD o s r
   |none=>none
def Vi (E:Oracle)(base:Nat):List XOper->St->Option St
 |[],s=>some s
 |o::os,s=>
  match Wi E base true o s with
  |some (s,_,_)=>Vi E base os s
  |none=>none
def Th (l:List Nat):Nat->Bool
 |0=>true
 |i+1=>l.contains i&&Th l i
def Vy (E:Oracle)(base:Nat):Nat->List XOper->St->Option (St×List Foot)
 |_,[],s=>some (s,[])
 |i,o::os,s=>
  bif Xe E o.op&& !(os.isEmpty&&Th o.after i)then none else
  match Wi E base (Xe E o.op) o s with
  |some (s1,rd,wr)=>
   match Vy E base (i+1) os s1 with
   |some (s2,fs)=>some (s2,⟨i,rd,wr,o.after,s.H.length,s1.H.length⟩::fs)
   |none=>none
  |none=>none
def footOk (f g:Foot):Bool:=
 Nat.beq f.i g.i||
  (f.wr.all (fun id=> !(g.wr.contains id)&&(!(g.rd.contains id)||f.after.contains g.i))&&
   g.rd.all (fun id=> !(Nat.ble f.lo id&&Nat.blt id f.hi)||g.after.contains f.i)&&
   g.wr.all (fun id=> !(Nat.ble f.lo id&&Nat.blt id f.hi)||g.after.contains f.i))
def Tr (fs:List Foot):Bool:=
 fs.all fun f=>(f.wr.isEmpty&&Nat.beq f.lo f.hi)||fs.all fun g=>footOk f g
def Vz (E:Oracle)(base:Nat)(ops:List XOper)(s:St):Option St:=
 match Vy E base 0 ops s with
 |some (s,fs)=>bif Tr fs then some s else none
 |none=>none
def Sh:Nat->List XOper->Bool
 |_,[]=>true
 |i,o::os=>Th o.after i&&Sh (i+1) os
def Re (E:Oracle)(base:Nat)(pre suf:List XOper)(s:St):Option St:=
 match Vz E base pre s with
 |some s=>Vi E base suf s
 |none=>none
inductive Ex where
 |normal
 |exit (id:Nat)
 |ret
def WR (T:List (Nat×DV)):List Nat->List (Nat×DV)
 |[]=>[]
 |k::ks=>match Xf T k with
  |some v=>(k,v)::WR T ks
  |none=>WR T ks
def keepK {β:Type}(T:List (Nat×DV)):List Nat->(List (Nat×DV)->β)->β
 |[],k=>k []
 |n::ns,k=>match Xf T n with
  |some v=>keepK T ns fun U=>k ((n,v)::U)
  |none=>keepK T ns k
def loopN (body:St->Option (Ex×St)):Nat->St->Option (Ex×St)
 |0,_=>none
 |k+1,s=>
  match body s with
  |some (.normal,s)=>loopN body k s
  |r=>r
def Sk:List Nat->List PV->List (Nat×DV)->Option (List (Nat×DV))
 |[],[],T=>some T
 |v::vs,x::xs,T=>Sk vs xs ((v,inj x)::T)
 |_,_,_=>none
def VW (T:List (Nat×DV))(body:St->Option (Ex×St))(vars:List Nat):List (List PV)->List Blk->Option (Ex×St)
 |[],H=>some (.normal,⟨T,H⟩)
 |xs::rest,H=>
  match Sk vars xs T with
  |some T1=>
   match body ⟨T1,H⟩with
   |some (.normal,s)=>VW T body vars rest s.H
   |some (.exit id,s)=>some (.exit id,⟨T,s.H⟩)
   |some (.ret,s)=>some (.ret,⟨T,s.H⟩)
   |none=>none
  |none=>none
def XCode.flat:XCode->Bool
 | .seq a b=>a.flat&&b.flat
 | .cond _ a b=>a.flat&&b.flat
 | .block _ c=>c.flat
 | .loop c=>c.flat
 | .keep _ c=>c.flat
 | .scope _=>false
 | .rfun _ _ _ _=>false
 |_=>true
def Uo (pre body:St->Option (Ex×St))(s:St):Option (Ex×St):=
 match pre s with
 |some (.normal,s)=>body s
 |_=>none
def Xp (E:Oracle)(K base:Nat):XCode->St->Option (Ex×St)
 | .skip,s=>some (.normal,s)
 | .region false ops,s=>
   match Vi E base ops s with
   |some s=>some (.normal,s)
   |none=>none
 | .region true ops,s=>
   match Vz E base ops s with
   |some s=>some (.normal,s)
   |none=>none
 | .regionS pre suf,s=>
   match Re E base pre suf s with
   |some s=>some (.normal,s)
   |none=>none
 | .seq a b,s=>
   match Xp E K base a s with
   |some (.normal,s)=>Xp E K base b s
   |r=>r
 | .cond c a b,s=>
   match c.eval s.T with
   |some (.one (.p (.bool true)))=>Xp E K base a s
   |some (.one (.p (.bool false)))=>Xp E K base b s
   |_=>none
 | .block id c,s=>
   match Xp E K base c s with
   |some (.exit j,s)=>bif j==id then some (.normal,s)else some (.exit j,s)
   |r=>r
 | .loop c,s=>loopN (fun s=>Xp E K base c s) K s
 | .keep ks c,s=>keepK s.T ks fun T=>Xp E K base c ⟨T,s.H⟩
 | .scope c,s=>Xp E K base c s
 | .exit id,s=>some (.exit id,s)
 | .ret,s=>some (.ret,s)
 | .rfun f vars pre body,s=>
   match f.eval s.T with
   |some (.one (.p (.fn f caps)))=>
    match E.iter f caps with
    |some xss=>bif pre.flat&&body.flat&&Nat.blt f bnd then VW s.T (Uo (fun s=>Xp E K base pre s) (fun s=>Xp E K base body s)) vars xss s.H else none
    |none=>none
   |_=>none
def X3 (s:St):Nat×Option (Bool×Nat)->Option DV
 |(t,none)=>Xf s.T t
 |(t,some (agg,sz))=>
  match Xf s.T t with
  |some (.one (.ptr id ver i off))=>
   match s.H[id]? with
   |some b=>bif Nat.beq b.ver ver&& !b.mp then
     match b.ch[i]? with
     |some c=>
      bif agg then(bif Nat.ble (off+sz) c.length then some (.agg ((c.drop off).take sz))else none)
      else match c.drop off with
       |d::_=>some (.one d)
       |[]=>none
     |none=>none
    else none
   |none=>none
  |_=>none
def argsK {β:Type}:List DV->Nat->(List (Nat×DV)->β)->β
 |[],_,k=>k []
 |v::vs,i,k=>argsK vs (i+1) fun T=>k ((i,v)::T)
def UN (E:Oracle)(K:Nat)(xf:XFunc)(args:List DV)(H:List Blk):Option (List DV×St):=
 match(bif Nat.ble args.length xf.ntmps then argsK args 0 fun T=>Xp E K 0 xf.body ⟨T,H⟩else none)with
 |some (.normal,s)|some (.ret,s)=>
  match Xl (X3 s) xf.results with
  |some rs=>some (rs,s)
  |none=>none
 |_=>none
def packP:List PV->PV
 |[v]=>v
 |vs=>.tup vs
def Ux (E:Oracle)(K:Nat)(xf:XFunc)(args:List PV):Option PV:=
 match UN E K xf (args.map inj) []with
 |some (rs,s)=>
  match Xl (Xw (Xi s.H)) rs with
  |some ps=>some (packP ps)
  |none=>none
 |none=>none
def packD:List DV->DV
 |[v]=>v
 |vs=>.tup vs
def DV.plain:DV->Bool
 | .tup _=>false
 |_=>true
def VD (E:Oracle)(K:Nat)(xf:XFunc)(args:List DV)(H:List Blk):Option (DV×List Blk):=
 match UN E K xf args H with
 |some (rs,s)=>bif rs.all DV.plain then some (packD rs,s.H)else none
 |none=>none
def lift (X:Nat->Option XFunc)(K:Nat)(E:Oracle):Oracle:=
 ⟨E.mode,
  fun f args=>match X f with
   |some xf=>Ux E K xf args
   |none=>E.pure f args,
  fun f args H=>match X f with
   |some xf=>VD E K xf args H
   |none=>E.heap f args H,
  E.iter⟩
def ev (E0:Oracle)(X:Nat->Option XFunc)(K:Nat):Nat->Oracle
 |0=>E0
 |n+1=>lift X K (ev E0 X K n)
def litL:Value->Option PL
 | .bool b=>some (.bool b)
 | .int k n=>some (.int k n)
 | .slice none 0 0=>some .nilS
 | .string s=>some (.str (s.data.toList.map UInt8.toNat))
 | .nilFunc=>some .junk
 | .nilIface=>some .junk
 | .pointer none=>some .junk
 |_=>none
def litV:Value->Option PV
 | .agg cs=>match Xl litL cs.toList with
   |some ls=>some (.agg ls)
   |none=>none
 | .tuple vs=>if vs.isEmpty then some (.tup [])else none
 |v=>match litL v with
  |some l=>some (.one l)
  |none=>none
def zeroOf (P:Program)(t:TypeId):Option (List PL):=
 match P.info? t with
 |some i=>match i.zero with
  |some z=>match Xl litL z.cells.toList with
   |some ls=>if ls.length==i.size then some ls else none
   |none=>none
  |none=>none
 |none=>none
def XQ (P:Program)(t:TypeId):Option Nat:=(P.info? t).map (·.size)
def bytesOfT (P:Program)(t:TypeId):Option Nat:=(P.info? t).map (·.bytes)
def aggT (P:Program)(t:TypeId):Option Bool:=
 match P.underlying t with
 |some (.struct _)=>some true
 |some (.array _ _)=>some true
 |some _=>some false
 |none=>none
def Sg (P:Program)(t:TypeId):Option Bool:=
 match P.info? t with
 |some i=>match i.zero with
  |some (.agg _)=>some true
  |some v=>if v.oneCell' then some false else none
  |none=>none
 |none=>none
def Xm:Operand->Option XOpd
 | .tmp t=>some (.t t)
 | .const v=>match litV v with
   |some l=>some (.c l)
   |none=>none
 | .func f=>if Nat.blt f bnd then some (.c (.one (.fn f [])))else none
 | .global _=>none
def SK (a:Array Operand):Option (List XOpd):=Xl Xm a.toList
def Ui:Option Operand->Option (List XOpd)
 |none=>some []
 |some x=>match Xm x with
  |some y=>some [y]
  |none=>none
def keyOfT (P:Program)(t:TypeId):Option (Nat×IntKind):=
 match P.underlying t with
 |some (.array n e)=>match P.underlying e,XQ P e with
  |some (.int k),some 1=>some (n,k)
  |_,_=>none
 |_=>none
def Xu (P:Program)(b:Builtin)(ts:Array TypeId):Option XOp:=
 match b with
 | .len=>match ts[0]? with
   |some t=>match P.underlying t with
    |some (.slice _)=>some .len
    |some (.array n _)=>some (.lenA n)
    |some (.map _ _)=>some .lenMap
    |_=>none
   |none=>none
 | .append=>match ts.toList with
   |[t,u]=>if t==u then
      match P.underlying t with
      |some (.slice e)=>match zeroOf P e,bytesOfT P e with
       |some z,some b=>if 0<z.length then some (.append e z.length b)else none
       |_,_=>none
      |_=>none
    else none
   |_=>none
 | .copy=>match ts.toList with
   |[t,u]=>if t==u then
      match P.underlying t with
      |some (.slice e)=>match XQ P e with
       |some (n+1)=>some (.copy (n+1))
       |_=>none
      |_=>none
    else none
   |_=>none
 | .clear=>match ts.toList with
   |[t]=>match P.underlying t with
    |some (.slice e)=>match zeroOf P e with
     |some z=>if 0<z.length then some (.clear z)else none
     |none=>none
    |_=>none
   |_=>none
 | .max=>some .max
 | .min=>some .min
 |_=>none
def Xv (P:Program)(o:Op):Option (XOp×List XOpd):=
 match o with
 | .move x| .assign x=>match Xm x with
   |some x=>some (.move,[x])
   |none=>none
 | .nilCheck x=>match Xm x with
   |some x=>some (.nilCheck,[x])
   |none=>none
 | .pick c a b=>match Xm c,Xm a,Xm b with
   |some c,some a,some b=>some (.pick,[c,a,b])
   |_,_,_=>none
 | .box t x=>match Xm x with
   |some x=>some (.box t,[x])
   |none=>none
 | .alloc t=>match zeroOf P t with
   |some z=>some (.alloc t z,[])
   |none=>none
 | .build t parts=>
   match zeroOf P t,Xl (fun x=>Xm x.2) parts.toList with
   |some z,some xs=>
    match P.underlying t with
    |some (.struct fs)=>
     match Xl (fun f:Field=>match XQ P f.type with |some s=>some (f.offset,s)|none=>none) fs.toList with
     |some places=>match Xl (fun x:Nat×Operand=>places[x.1]?) parts.toList with
      |some pl=>some (.build z pl,xs)
      |none=>none
     |none=>none
    |some (.array _ e)=>match XQ P e with
     |some s=>some (.build z (parts.toList.map fun x=>(x.1*s,s)),xs)
     |none=>none
    |_=>none
   |_,_=>none
 | .buildSlice t len parts=>
   match P.underlying t with
   |some (.slice e)=>
    match zeroOf P e,Xl (fun x=>Xm x.2) parts.toList with
    |some z,some xs=>if 0<z.length&&Nat.ble (len*z.length) 16777216 then some (.buildSlice e z len (parts.toList.map (·.1)),xs)else none
    |_,_=>none
   |_=>none
 | .load t x=>match aggT P t,XQ P t,Xm x with
   |some a,some s,some x=>some (.load a s,[x])
   |_,_,_=>none
 | .store t a x=>match XQ P t,Xm a,Xm x with
   |some s,some a,some x=>some (.store s,[a,x])
   |_,_,_=>none
 | .binOp op t x y _=>
   match Xm x,Xm y with
   |some x,some y=>
    match P.underlying t with
    |some (.int _)=>some (.bin op,[x,y])
    |some .bool=>match op with
     | .eql=>some (.binB false,[x,y])
     | .neq=>some (.binB true,[x,y])
     |_=>none
    |some (.slice _)=>match op with
     | .eql=>some (.binNil false,[x,y])
     | .neq=>some (.binNil true,[x,y])
     |_=>none
    |some (.array n e)=>match P.underlying e,XQ P e,P.eqGuardType P.depth t with
     |some (.int k),some 1,false=>match op with
      | .eql=>some (.binAgg false k n,[x,y])
      | .neq=>some (.binAgg true k n,[x,y])
      |_=>none
     |_,_,_=>none
    |_=>none
   |_,_=>none
 | .unOp op _ x=>match Xm x with
   |some x=>some (.un op,[x])
   |none=>none
 | .convert s d x=>match P.underlying s,P.underlying d,Xm x with
   |some _,some (.int k),some x=>some (.conv k,[x])
   |_,_,_=>none
 | .makeFunc (.func f) first caps=>if first.isEmpty then
   match SK caps with
   |some cs=>if Nat.blt f bnd then some (.makeFunc f,cs)else none
   |none=>none
   else if caps.isEmpty then
    match SK first with
    |some cs=>some (.makeFunc (f+bnd),cs)
    |none=>none
   else none
 | .makeSlice t l c=>
   match P.underlying t with
   |some (.slice e)=>match zeroOf P e,bytesOfT P e,Xm l,Xm c with
    |some z,some b,some l,some c=>if 0<z.length then some (.makeSlice e z b,[l,c])else none
    |_,_,_,_=>none
   |_=>none
 | .slice t x lo hi none=>
   match P.underlying t with
   |some (.slice e)=>match Xm x,Ui lo,Ui hi,XQ P e with
    |some x,some l,some h,some s=>some (.slice s lo.isSome hi.isSome,x::(l++h))
    |_,_,_,_=>none
   |_=>none
 | .slice t x (some lo) (some hi) (some mx)=>
   match P.underlying t with
   |some (.slice e)=>match Xm x,Xm lo,Xm hi,Xm mx,XQ P e with
    |some x,some l,some h,some m,some _=>some (.slice3,[x,l,h,m])
    |_,_,_,_,_=>none
   |_=>none
 | .fieldAddr s x f=>match P.underlying s with
   |some (.struct fs)=>match fs[f]? with
    |some fl=>match XQ P fl.type,Xm x with
     |some (_+1),some x=>some (.fieldAddr fl.offset,[x])
     |_,_=>none
    |none=>none
   |_=>none
 | .field s x f=>match P.underlying s with
   |some (.struct fs)=>match fs[f]? with
    |some fl=>match aggT P fl.type,XQ P fl.type,Xm x with
     |some a,some sz,some x=>some (.field a sz fl.offset,[x])
     |_,_,_=>none
    |none=>none
   |_=>none
 | .indexAddr t x i=>match P.underlying t,Xm x,Xm i with
   |some (.slice e),some x,some i=>match XQ P e with
    |some s=>some (.indexS s,[x,i])
    |none=>none
   |some (.array n e),some x,some i=>match XQ P e with
    |some s=>some (.indexA n s,[x,i])
    |none=>none
   |_,_,_=>none
 | .index t x i=>match P.underlying t,Xm x,Xm i with
   |some .string,some x,some i=>some (.indexStr,[x,i])
   |some (.array n e),some x,some i=>match aggT P e,XQ P e with
    |some a,some s=>some (.indexV n a s,[x,i])
    |_,_=>none
   |_,_,_=>none
 | .makeMap t none=>match P.underlying t with
   |some (.map k e)=>match keyOfT P k,Sg P e with
    |some (n,_),some a=>some (.makeMap n a,[])
    |_,_=>none
   |_=>none
 | .lookup t x i ok=>match P.underlying t with
   |some (.map k e)=>match keyOfT P k,Sg P e,zeroOf P e,Xm x,Xm i with
    |some (n,kk),some a,some z,some x,some i=>some (.lookup n kk a z ok,[x,i])
    |_,_,_,_,_=>none
   |_=>none
 | .mapUpdate t m k x=>match P.underlying t with
   |some (.map kt e)=>match keyOfT P kt,Sg P e,XQ P e,Xm m,Xm k,Xm x with
    |some (n,kk),some a,some s,some m,some k,some x=>some (.mapUpdate n kk a s,[m,k,x])
    |_,_,_,_,_,_=>none
   |_=>none
 | .extract x n=>match Xm x with
   |some x=>some (.extract n,[x])
   |none=>none
 | .call c=>match SK c.args with
   |some xs=>
    match c.callee with
    | .builtin b=>match Xu P b c.argTypes with
      |some op=>some (op,xs)
      |none=>none
    | .value (.func f)=>some (.call f,xs)
    | .value x=>match Xm x with
      |some x=>some (.callV,x::xs)
      |none=>none
    | .invoke _ _=>none
   |none=>none
 |_=>none
def dstOk (nt:Nat):Option Nat->Bool
 |none=>true
 |some d=>Nat.blt d nt
def UO (ops:List Oper):Option (Nat×Bool)->Option (Option (Nat×Bool))
 |none=>some none
 |some (j,want)=>match ops[j]? with
  |some g=>match g.dst with
   |some d=>some (some (d,want))
   |none=>none
  |none=>none
def Vp (P:Program)(nt:Nat)(ops:List Oper)(o:Oper):Option XOper:=
 match Xv P o.op with
 |some (op,args)=>match UO ops o.guard with
  |some g=>if dstOk nt o.dst then some ⟨o.dst,op,args,g,(o.after.toList.filter (Region.binds .any)).map (·.on)⟩else none
  |none=>none
 |none=>none
def XOpd.tmp:XOpd->List Nat
 | .t n=>[n]
 | .c _=>[]
def XOper.tmps (o:XOper):List Nat:=
 o.args.flatMap XOpd.tmp++(match o.guard with |some (t,_)=>[t]|none=>[])
def flowOk (ops:List XOper):Bool:=
 ops.zipIdx.all fun(o,i)=>
  o.after.all (fun j=>Nat.blt j i)&&
  ops.zipIdx.all fun(q,j)=>i==j||
   match q.dst with
   |none=>true
   |some d=>(match o.dst with |some e=>d !=e|none=>true)&&
    (!(o.tmps.contains d)||o.after.contains j||q.after.contains i)
def afterOf (done:List XOper)(j:Nat):List Nat:=
 match done[j]? with
 |some p=>p.after
 |none=>[]
def dd:List Nat->List Nat
 |[]=>[]
 |x::xs=>bif xs.contains x then dd xs else x::dd xs
def X4:List XOper->List XOper->List XOper
 |done,[]=>done
 |done,o::os=>X4 (done++[{o with after:=dd (o.after++o.after.flatMap (afterOf done))}]) os
theorem mem_dd (x:Nat):∀l:List Nat,x∈dd l↔x∈l
 |[]=>by simp[dd]
 |y::l=>by
  have ih:=mem_dd x l
  simp only[dd]
  cases hc:l.contains y with
  |true=>
   have hy:y∈l:=by simpa using hc
   simp only[cond_true,ih,Zk]
   exact⟨.inr,fun h=>h.elim (fun e=>e▸hy) id⟩
  |false=>simp only[cond_false,Zk,ih]
def XOper.bare (o:XOper):XOper:={o with after:=[]}
def Xz (P:Program)(nt:Nat):Code->Option XCode
 | .skip=>some .skip
 | .region _ ops draws=>
   match Xl (Vp P nt ops.toList) ops.toList with
   |some os=>if draws then(if flowOk (X4 [] os)then some (.region true (X4 [] os))else none)else some (.region false (os.map XOper.bare))
   |none=>none
 | .seq a b=>match Xz P nt a,Xz P nt b with
   |some a,some b=>some (.seq a b)
   |_,_=>none
 | .cond c a b=>match Xm c,Xz P nt a,Xz P nt b with
   |some c,some a,some b=>some (.cond c a b)
   |_,_,_=>none
 | .block id c=>match Xz P nt c with
   |some c=>some (.block id c)
   |none=>none
 | .loop c=>match Xz P nt c with
   |some c=>some (.loop c)
   |none=>none
 | .exit id=>some (.exit id)
 | .ret=>some .ret
 | .scope c=>match Xz P nt c with
   |some c=>some (.scope c)
   |none=>none
 | .label _=>some .skip
 | .rangeFunc f vars pre body=>match Xm f,Xz P nt pre,Xz P nt body with
   |some f,some pre,some body=>if vars.toList.all (fun v=>Nat.blt v nt)then some (.rfun f vars.toList pre body)else none
   |_,_,_=>none
 |_=>none
def T4 (P:Program):ResultVar->Option (Nat×Option (Bool×Nat))
 | .tmp t=>some (t,none)
 | .cell a t=>match aggT P t,XQ P t with
   |some g,some s=>some (a,some (g,s))
   |_,_=>none
def XCode.erase:XCode->XCode
 | .seq a b=>.seq a.erase b.erase
 | .cond c a b=>.cond c a.erase b.erase
 | .block id c=>.block id c.erase
 | .loop c=>.loop c.erase
 | .keep _ c=>c.erase
 | .scope c=>.scope c.erase
 | .rfun f vs a b=>.rfun f vs a.erase b.erase
 | .regionS pre suf=>bif Sh pre.length suf then .region true (pre++suf)else .keep [] .skip
 |c=>c
end Go.Ev
