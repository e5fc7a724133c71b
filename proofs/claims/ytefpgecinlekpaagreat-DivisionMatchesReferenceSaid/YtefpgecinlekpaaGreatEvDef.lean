/- Definitions: abstract values, a small instruction set with all sizes resolved, and a deterministic interpreter over abstract values. Nothing is proved here. -/
import Derived.Test.YtefpgecinlekpaaGreatZ
import Derived.WalkKit
namespace Go.Ev
inductive PL where
 |bool (b:Bool)
 |int (k:IntKind) (n:Int)
 |XJ
 |Xv (es:List (List PL))
 |ref (cs:List PL)
 |fn (f:Nat) (caps:List PL)
 |str (bs:List Nat)
 |RJ
inductive DL where
 |p (l:PL)
 |own (id XZ off len:Nat)
 |ptr (id XZ i off:Nat)
 |fn (f:Nat) (caps:List DL)
 |mp (id:Nat)
inductive PV where
 |one (l:PL)
 |agg (cs:List PL)
 |XY (vs:List PV)
inductive DV where
 |one (l:DL)
 |agg (cs:List DL)
 |XY (vs:List DV)
structure Xz where
 fz:Bool
 XZ:Nat
 sz:Nat
 ch:List (List DL)
 mp:Bool
 ty:Nat
inductive W8 where
 |t (n:Nat)
 |c (v:PV)
inductive aX where
 |move
 |nilCheck
 |pick
 |box (t:Nat)
 |alloc (t:Nat) (z:List PL)
 |build (z:List PL) (places:List (Nat×Nat))
 |buildSlice (e:Nat) (z:List PL) (len:Nat) (places:List Nat)
 |load (agg:Bool) (sz:Nat)
 |store (sz:Nat)
 |bin (op:BinOp)
 |wC (neq:Bool)
 |cq (neq:Bool)
 |NN (neq:Bool) (k:IntKind) (len:Nat)
 |un (op:UnOp)
 |conv (k:IntKind)
 |fieldAddr (off:Nat)
 |Pr (sz:Nat)
 |fW (len sz:Nat)
 |Tg
 |fV (len:Nat) (agg:Bool) (sz:Nat)
 |field (agg:Bool) (sz off:Nat)
 |slice (sz:Nat) (lo hi:Bool)
 |extract (n:Nat)
 |len
 |yZ (n:Nat)
 |append (e sz bytes:Nat)
 |makeSlice (e:Nat) (z:List PL) (bytes:Nat)
 |max
 |min
 |copy (sz:Nat)
 |makeMap (VB:Nat) (agg:Bool)
 |lookup (VB:Nat) (k:IntKind) (agg:Bool) (z:List PL) (ok:Bool)
 |mapUpdate (VB:Nat) (k:IntKind) (agg:Bool) (vsz:Nat)
 |Oc
 |makeFunc (f:Nat)
 |call (f:Nat)
 |U3
 |clear (z:List PL)
 |slice3
structure Xx where
 dst:Option Nat
 op:aX
 args:List W8
 guard:Option (Nat×Bool)
 after:List Nat
inductive XE where
 |skip
 |region (draws:Bool) (ops:List Xx)
 |Re (pre suf:List Xx)
 |seq (a b:XE)
 |cond (c:W8) (a b:XE)
 |block (id:Nat) (c:XE)
 |loop (c:XE)
 |V2 (ks:List Nat) (c:XE)
 |scope (c:XE)
 |exit (id:Nat)
 |ret
 |PJ (f:W8) (vars:List Nat) (pre body:XE)
def Q {α:Type}(a:α){b:α}(_h:a=b:=by conv=>lhs;reduce):α:=b
abbrev cI (n:Nat):PL:=.int .i64 (.ofNat n)
abbrev cN (n:Nat):PL:=.int .i64 (.negSucc n)
abbrev cW (n:Nat):PL:=.int .u32 (.ofNat n)
abbrev cQ (n:Nat):PL:=.int .u64 (.ofNat n)
abbrev cB (n:Nat):PL:=.int .u8 (.ofNat n)
abbrev cC (n:Nat):W8:=.c (.one (.int .i64 (.ofNat n)))
abbrev cF:W8:=.c (.one (.bool false))
abbrev cT:W8:=.c (.one (.bool true))
abbrev oP (d:Nat)(op:aX)(a:List W8):Xx:=⟨some d,op,a,none,[]⟩
abbrev oA (d:Nat)(op:aX)(a:List W8)(af:List Nat):Xx:=⟨some d,op,a,none,af⟩
abbrev oG (d:Nat)(op:aX)(a:List W8)(g:Nat)(b:Bool)(af:List Nat):Xx:=⟨some d,op,a,some (g,b),af⟩
abbrev oN (op:aX)(a:List W8)(af:List Nat):Xx:=⟨none,op,a,none,af⟩
abbrev mV (d t:Nat):Xx:=⟨some d,.move,[.t t],none,[]⟩
abbrev mA (d t:Nat)(af:List Nat):Xx:=⟨some d,.move,[.t t],none,af⟩
abbrev mC (d:Nat)(c:W8):Xx:=⟨some d,.move,[c],none,[]⟩
abbrev rG:List Xx->XE:=.region false
abbrev rD:List Xx->XE:=.region true
abbrev sQ:XE->XE->XE:=.seq
structure W4 where
 ntmps:Nat
 results:List (Nat×Option (Bool×Nat))
 body:XE
def NL:Nat:=1000
def dG (f:Nat):Nat:=bif Nat.blt f NL then f else f-NL
def ru {α:Type}(f:Nat)(vs caps:List α):List α:=bif Nat.blt f NL then vs++caps else caps++vs
def lD:PV->DV
 | .one l=>.one (.p l)
 | .agg cs=>.agg (cs.map .p)
 | .XY _=>.XY []
def inj:PV->DV
 | .one l=>.one (.p l)
 | .agg cs=>.agg (cs.map .p)
 | .XY vs=>.XY (vs.map lD)
def DV.cells:DV->Option (List DL)
 | .one l=>some [l]
 | .agg cs=>some cs
 | .XY _=>none
abbrev HF:=Nat->Option Xz
def Xt {α β:Type}(f:α->Option β):List α->Option (List β)
 |[]=>some []
 |x::xs=>match f x with
  |none=>none
  |some y=>match Xt f xs with
   |none=>none
   |some ys=>some (y::ys)
def XB:Nat->HF->DL->Option PL
 |_,_,.p l=>some l
 |0,_,_=>none
 |n+1,h,.own id XZ off len=>
  match h id with
  |some b=>bif Nat.beq b.XZ XZ&& !b.mp&&Nat.ble (off+len) b.ch.length then
    match Xt (Xt (XB n h)) ((b.ch.drop off).take len)with
    |some es=>some (.Xv es)
    |none=>none
   else none
  |none=>none
 |n+1,h,.ptr id XZ i off=>
  match h id with
  |some b=>bif Nat.beq b.XZ XZ&& !b.mp then
    match b.ch[i]? with
    |some c=>match Xt (XB n h) (c.drop off)with
     |some cs=>some (.ref cs)
     |none=>none
    |none=>none
   else none
  |none=>none
 |n+1,h,.fn f caps=>match Xt (XB n h) caps with
  |some cs=>some (.fn f cs)
  |none=>none
 |_+1,_,.mp _=>none
def WY:Nat->HF->DL->List Nat
 |_,_,.p _=>[]
 |0,_,_=>[]
 |n+1,h,.own id _ off len=>
  match h id with
  |some b=>id::((b.ch.drop off).take len).flatMap fun c=>c.flatMap (WY n h)
  |none=>[]
 |n+1,h,.ptr id _ i off=>
  match h id with
  |some b=>match b.ch[i]? with
   |some c=>id::(c.drop off).flatMap (WY n h)
   |none=>[]
  |none=>[]
 |n+1,h,.fn _ caps=>caps.flatMap (WY n h)
 |_+1,_,.mp _=>[]
def Wn:Nat:=6
def XU (h:HF):DV->Option PV
 | .one l=>match XB Wn h l with
   |some l=>some (.one l)
   |none=>none
 | .agg cs=>match Xt (XB Wn h) cs with
   |some cs=>some (.agg cs)
   |none=>none
 | .XY _=>none
def FU (h:HF):DV->Option PV
 | .XY vs=>match Xt (XU h) vs with
   |some vs=>some (.XY vs)
   |none=>none
 |v=>XU h v
def Sa (h:HF):DV->List Nat
 | .one l=>WY Wn h l
 | .agg cs=>cs.flatMap (WY Wn h)
 | .XY _=>[]
def PL.scalar:PL->Bool
 | .bool _=>true
 | .int _ _=>true
 | .XJ=>true
 | .str _=>true
 | .RJ=>true
 |_=>false
def PV.OH:PV->Bool
 | .one l=>l.scalar
 | .agg cs=>cs.all PL.scalar
 | .XY vs=>vs.isEmpty
def PV.scalar:PV->Bool
 | .XY vs=>vs.all PV.OH
 |v=>v.OH
structure W5 where
 val:DV
 al:List Xz
 wr:List (Nat×Xz)
 rd:List Nat
def W5.pure (v:DV):W5:=⟨v,[],[],[]⟩
inductive Mode where
 |pure
 |heap
structure Xb where
 mode:Nat->Mode
 pure:Nat->List PV->Option PV
 heap:Nat->List DV->List Xz->Option (DV×List Xz)
 iter:Nat->List PL->Option (List (List PV))
def ze:IntKind->Nat
 | .i8=>0
 | .i16=>1
 | .i32=>2
 | .i64=>3
 | .u8=>4
 | .u16=>5
 | .u32=>6
 | .u64=>7
def dF (a b:IntKind):Bool:=Nat.beq (ze a) (ze b)
def zf:IntKind->Nat
 | .i8=>8
 | .i16=>16
 | .i32=>32
 | .i64=>64
 | .u8=>8
 | .u16=>16
 | .u32=>32
 | .u64=>64
def S8:IntKind->Nat
 | .i8=>256
 | .i16=>65536
 | .i32=>4294967296
 | .i64=>18446744073709551616
 | .u8=>256
 | .u16=>65536
 | .u32=>4294967296
 | .u64=>18446744073709551616
def ly:IntKind->Bool
 | .i8=>true
 | .i16=>true
 | .i32=>true
 | .i64=>true
 |_=>false
def WJ (k:IntKind):Int->Nat
 | .ofNat m=>m%S8 k
 | .negSucc m=>(S8 k-1)-m%S8 k
def UC (k:IntKind)(r:Nat):Int:=
 bif ly k&&Nat.ble (S8 k / 2) r then Int.negSucc (S8 k-r-1)else Int.ofNat r
def Xe (k:IntKind)(n:Int):Int:=UC k (WJ k n)
def T5:Int->Int->Bool
 | .ofNat a,.ofNat b=>Nat.blt a b
 | .ofNat _,.negSucc _=>false
 | .negSucc _,.ofNat _=>true
 | .negSucc a,.negSucc b=>Nat.blt b a
def OX:Int->Int->Bool
 | .ofNat a,.ofNat b=>Nat.beq a b
 | .negSucc a,.negSucc b=>Nat.beq a b
 |_,_=>false
def wQ (a b:Int):Bool:= !T5 b a
def AZ (a:Int)(n:Nat):Int:=
 match a with
 | .ofNat m=>.ofNat (m / 2^n)
 | .negSucc m=>.negSucc (m / 2^n)
def Sd (k:IntKind)(n:Int):Option DL:=some (.p (.int k n))
def TX (b:Bool):Option DL:=some (.p (.bool b))
def NM (k:IntKind)(a:Int):Int->Option DL
 | .ofNat n=>Sd k (Xe k (a*Int.ofNat (2^(Nat.min n (zf k)))))
 | .negSucc _=>none
def Qr (k:IntKind)(a:Int):Int->Option DL
 | .ofNat n=>Sd k (AZ a (Nat.min n (zf k)))
 | .negSucc _=>none
def Tx (k:IntKind)(a b:Int):Option DL:=bif OX b 0 then none else Sd k (Xe k (Int.tdiv a b))
def U9 (k:IntKind)(a b:Int):Option DL:=bif OX b 0 then none else Sd k (Int.tmod a b)
def VJ (k k':IntKind)(r:Option DL):Option DL:=bif dF k k' then r else none
def Wv (op:BinOp)(k k':IntKind)(a b:Int):Option DL:=
 match op with
 | .shl=>NM k a b
 | .shr=>Qr k a b
 | .add=>VJ k k' (Sd k (Xe k (a+b)))
 | .sub=>VJ k k' (Sd k (Xe k (a-b)))
 | .mul=>VJ k k' (Sd k (Xe k (a*b)))
 | .quo=>VJ k k' (Tx k a b)
 | .rem=>VJ k k' (U9 k a b)
 | .and=>VJ k k' (Sd k (UC k (Nat.land (WJ k a) (WJ k b))))
 | .or=>VJ k k' (Sd k (UC k (Nat.lor (WJ k a) (WJ k b))))
 | .xor=>VJ k k' (Sd k (UC k (Nat.xor (WJ k a) (WJ k b))))
 | .andNot=>VJ k k' (Sd k (UC k (Nat.land (WJ k a) (Nat.xor (S8 k-1) (WJ k b)))))
 | .eql=>VJ k k' (TX (OX a b))
 | .neq=>VJ k k' (TX (!OX a b))
 | .lss=>VJ k k' (TX (T5 a b))
 | .leq=>VJ k k' (TX (wQ a b))
 | .gtr=>VJ k k' (TX (T5 b a))
 | .geq=>VJ k k' (TX (wQ b a))
def DL.isNil:DL->Option Bool
 | .p .XJ=>some true
 | .p (.Xv _)=>some false
 | .own _ _ _ _=>some false
 |_=>none
def Wk (k:IntKind):List DL->List DL->Option Bool
 |[],[]=>some true
 | .p (.int k1 a)::xs,.p (.int k2 b)::ys=>
   bif dF k1 k&&dF k2 k then
    match Wk k xs ys with
    |some r=>some (OX a b&&r)
    |none=>none
   else none
 |_,_=>none
def Ea (op:UnOp):DL->Option DL
 | .p (.int k n)=>
   match op with
   | .neg=>some (.p (.int k (Xe k (0-n))))
   | .xor=>some (.p (.int k (UC k (Nat.xor (S8 k-1) (WJ k n)))))
   |_=>none
 | .p (.bool b)=>
   match op with
   | .not=>some (.p (.bool (!b)))
   |_=>none
 |_=>none
def PC:List DL->List (Nat×Nat)->List DV->Option (List DL)
 |cs,[],[]=>some cs
 |cs,(off,sz)::ps,v::vs=>
  match v.cells with
  |some ds=>bif Nat.beq ds.length sz&&Nat.ble (off+sz) cs.length then PC (cs.take off++ds++cs.drop (off+sz)) ps vs else none
  |none=>none
 |_,_,_=>none
def PD (sz:Nat):List (List DL)->List Nat->List DV->Option (List (List DL))
 |cs,[],[]=>some cs
 |cs,i::ps,v::vs=>
  match v.cells with
  |some ds=>bif Nat.beq ds.length sz&&Nat.blt i cs.length then PD sz (cs.set i ds) ps vs else none
  |none=>none
 |_,_,_=>none
def maxD (pickNew:Int->Int->Bool):IntKind->Int->List DV->Option DV
 |k,a,[]=>some (.one (.p (.int k a)))
 |k,a,.one (.p (.int k' b))::vs=>bif dF k k' then maxD pickNew k (bif pickNew a b then b else a) vs else none
 |_,_,_=>none
def Wt (h:HF):DL->Option (List (List DL)×List Nat)
 | .p .XJ=>some ([],[])
 | .p (.Xv es)=>some (es.map (·.map .p),[])
 | .own id XZ off len=>
   match h id with
   |some b=>bif Nat.beq b.XZ XZ&& !b.mp&&Nat.ble (off+len) b.ch.length then some ((b.ch.drop off).take len,[id])else none
   |none=>none
 |_=>none
def Qh:List DL->Bool
 |[]=>true
 | .p _::cs=>Qh cs
 |_::_=>false
def TU (k:IntKind)(VB:Nat)(key:List DL):List (List DL)->Nat->Option (Option (Nat×List DL))
 |[],_=>some none
 |c::cs,i=>
  match Wk k key (c.take VB)with
  |some true=>some (some (i,c))
  |some false=>TU k VB key cs (i+1)
  |none=>none
def ue (agg:Bool)(cs:List DL):Option DV:=
 bif agg then some (.agg cs)else match cs with
  |[c]=>some (.one c)
  |_=>none
def lim:Nat:=140737488355328
def Nr:List DV->Option W5
 |[x]=>some (.pure x)
 |_=>none
def Sr:List DV->Option W5
 |[.one (.ptr id XZ i off)]=>some (.pure (.one (.ptr id XZ i off)))
 |[.one (.p (.ref cs))]=>some (.pure (.one (.p (.ref cs))))
 |[.one (.fn f cs)]=>some (.pure (.one (.fn f cs)))
 |[.one (.p (.fn f cs))]=>some (.pure (.one (.p (.fn f cs))))
 |_=>none
def Nq:List DV->Option W5
 |[.one (.p (.bool c)),a,b]=>some (.pure (bif c then a else b))
 |_=>none
def ao (t n:Nat):List DV->Option W5
 |[x]=>match x.cells with
  |some cs=>some ⟨.one (.ptr n 0 0 0),[⟨false,0,cs.length,[cs],false,t⟩],[],[]⟩
  |none=>none
 |_=>none
def R8 (t:Nat)(z:List PL)(n:Nat):List DV->Option W5
 |[]=>some ⟨.one (.ptr n 0 0 0),[⟨false,0,z.length,[z.map .p],false,t⟩],[],[]⟩
 |_=>none
def Ph (z:List PL)(places:List (Nat×Nat))(vs:List DV):Option W5:=
 match PC (z.map .p) places vs with
 |some cs=>some (.pure (.agg cs))
 |none=>none
def VR (e:Nat)(z:List PL)(len:Nat)(places:List Nat)(n:Nat)(vs:List DV):Option W5:=
 match PD z.length (List.replicate len (z.map .p)) places vs with
 |some cs=>some ⟨.one (.own n 0 0 len),[⟨false,0,z.length,cs,false,e⟩],[],[]⟩
 |none=>none
def TC (agg:Bool)(sz:Nat)(cs:List DL):Option DV:=
 bif agg then(bif Nat.ble sz cs.length then some (.agg (cs.take sz))else none)
 else match cs with
  |c::_=>some (.one c)
  |[]=>none
def SI (h:HF)(id XZ i:Nat):Option (List DL):=
 match h id with
 |some b=>bif Nat.beq b.XZ XZ&& !b.mp then b.ch[i]? else none
 |none=>none
def Pe (agg:Bool)(sz:Nat)(h:HF):List DV->Option W5
 |[.one (.p (.ref cs))]=>match TC agg sz (cs.map .p)with
  |some v=>some (.pure v)
  |none=>none
 |[.one (.ptr id XZ i off)]=>match SI h id XZ i with
  |some c=>bif Nat.ble off c.length then
    match TC agg sz (c.drop off)with
    |some v=>some ⟨v,[],[],[id]⟩
    |none=>none
   else none
  |none=>none
 |_=>none
def Q2 (base sz id XZ i off:Nat)(b:Xz)(cs:List DL):Option W5:=
 bif Nat.beq b.XZ XZ&& !b.mp&& !b.fz&&Nat.beq cs.length sz&&(Nat.ble base id||Qh cs)then
  match b.ch[i]? with
  |some c=>bif Nat.ble (off+sz) c.length then some ⟨.XY [],[],[(id,{b with ch:=b.ch.set i (c.take off++cs++c.drop (off+sz))})],[id]⟩else none
  |none=>none
 else none
def R4 (base sz:Nat)(h:HF):List DV->Option W5
 |[.one (.ptr id XZ i off),x]=>match h id with
  |some b=>match x.cells with
   |some cs=>Q2 base sz id XZ i off b cs
   |none=>none
  |none=>none
 |_=>none
def fw (op:BinOp):List DV->Option W5
 |[.one (.p (.int k a)),.one (.p (.int k' b))]=>match Wv op k k' a b with
  |some d=>some (.pure (.one d))
  |none=>none
 |_=>none
def Nu (neq:Bool):List DV->Option W5
 |[.one (.p (.bool a)),.one (.p (.bool b))]=>some (.pure (.one (.p (.bool ((a==b)!=neq)))))
 |_=>none
def qO (neq:Bool)(x y:DL):Option Bool:=
 match x.isNil,y.isNil with
 |some true,some b=>some (b !=neq)
 |some false,some true=>some neq
 |_,_=>none
def VS (neq:Bool):List DV->Option W5
 |[.one x,.one y]=>match qO neq x y with
  |some b=>some (.pure (.one (.p (.bool b))))
  |none=>none
 |_=>none
def Vl (neq:Bool)(k:IntKind)(len:Nat):List DV->Option W5
 |[.agg xs,.agg ys]=>bif Nat.beq xs.length len then
   match Wk k xs ys with
   |some b=>some (.pure (.one (.p (.bool (b !=neq)))))
   |none=>none
  else none
 |_=>none
def fv (op:UnOp):List DV->Option W5
 |[.one x]=>match Ea op x with
  |some d=>some (.pure (.one d))
  |none=>none
 |_=>none
def Nt (k:IntKind):List DV->Option W5
 |[.one (.p (.int _ n))]=>some (.pure (.one (.p (.int k (Xe k n)))))
 |_=>none
def Uc (off:Nat):List DV->Option W5
 |[.one (.p (.ref cs))]=>bif Nat.ble off cs.length then some (.pure (.one (.p (.ref (cs.drop off)))))else none
 |[.one (.ptr id XZ i o)]=>some (.pure (.one (.ptr id XZ i (o+off))))
 |_=>none
def VA (sz:Nat)(h:HF):List DV->Option W5
 |[.one (.p (.Xv es)),.one (.p (.int _ (.ofNat i)))]=>match es[i]? with
  |some c=>bif Nat.beq c.length sz then some (.pure (.one (.p (.ref c))))else none
  |none=>none
 |[.one (.own id XZ off len),.one (.p (.int _ (.ofNat i)))]=>match h id with
  |some b=>bif Nat.beq b.sz sz&&Nat.blt i len then some ⟨.one (.ptr id XZ (off+i) 0),[],[],[id]⟩else none
  |none=>none
 |_=>none
def SM (len sz:Nat):List DV->Option W5
 |[.one (.p (.ref cs)),.one (.p (.int _ (.ofNat i)))]=>
  bif Nat.blt i len&&Nat.ble (i*sz) cs.length then some (.pure (.one (.p (.ref (cs.drop (i*sz))))))else none
 |[.one (.ptr id XZ j o),.one (.p (.int _ (.ofNat i)))]=>
  bif Nat.blt i len then some (.pure (.one (.ptr id XZ j (o+i*sz))))else none
 |_=>none
def TR (len:Nat)(agg:Bool)(sz:Nat):List DV->Option W5
 |[.agg cs,.one (.p (.int _ (.ofNat i)))]=>bif Nat.blt i len&&Nat.ble (i*sz) cs.length then
   match TC agg sz (cs.drop (i*sz))with
   |some v=>some (.pure v)
   |none=>none
  else none
 |_=>none
def VY:List DV->Option W5
 |[.one (.p (.str bs)),.one (.p (.int _ (.ofNat i)))]=>match bs[i]? with
  |some b=>some (.pure (.one (.p (.int .u8 b))))
  |none=>none
 |_=>none
def Pf (agg:Bool)(sz off:Nat):List DV->Option W5
 |[.agg cs]=>bif Nat.ble off cs.length then
   match TC agg sz (cs.drop off)with
   |some v=>some (.pure v)
   |none=>none
  else none
 |_=>none
def RR (sz:Nat):Option (List PL)->Bool
 |some c=>Nat.beq c.length sz
 |none=>true
def WH (sz:Nat)(h:HF)(x:DL)(l:Nat)(u:Option Nat):Option (DL×List Nat):=
 match x with
 | .p (.Xv es)=>bif Nat.ble l (u.getD es.length)&&Nat.ble (u.getD es.length) es.length&&RR sz es[l]? then some (.p (.Xv ((es.take (u.getD es.length)).drop l)),[])else none
 | .p .XJ=>bif Nat.beq l 0&&Nat.beq (u.getD 0) 0 then some (.p .XJ,[])else none
 | .own id XZ off len=>match h id with
   |some b=>bif Nat.ble l (u.getD len)&&(Nat.ble (u.getD len) len||(Nat.beq b.XZ XZ&& !b.mp&&Nat.beq off 0&&Nat.blt 0 sz&&Nat.ble (u.getD len) b.ch.length))&&Nat.beq b.sz sz then some (.own id XZ (off+l) (u.getD len-l),[id])else none
   |none=>none
 |_=>none
def VO (lo hi:Bool):List DV->Option (DL×Nat×Option Nat)
 |[.one x]=>bif lo||hi then none else some (x,0,none)
 |[.one x,.one (.p (.int _ (.ofNat a)))]=>match lo,hi with
  |true,false=>some (x,a,none)
  |false,true=>some (x,0,some a)
  |_,_=>none
 |[.one x,.one (.p (.int _ (.ofNat a))),.one (.p (.int _ (.ofNat b)))]=>bif lo&&hi then some (x,a,some b)else none
 |_=>none
def R5 (sz:Nat)(lo hi:Bool)(h:HF)(vs:List DV):Option W5:=
 match VO lo hi vs with
 |some (x,l,u)=>match WH sz h x l u with
  |some (d,rd)=>some ⟨.one d,[],[],rd⟩
  |none=>none
 |none=>none
def QE:List DV->Option W5
 |[.one (.own _ _ _ len),.one (.p (.int _ (.ofNat a))),.one (.p (.int _ (.ofNat b))),.one (.p (.int _ (.ofNat c)))]=>
  bif Nat.ble a b&&Nat.ble b c&&Nat.ble c len then some (.pure (.one (.p .RJ)))else none
 |_=>none
def Ss (n:Nat):List DV->Option W5
 |[.XY vs]=>match vs[n]? with
  |some v=>some (.pure v)
  |none=>none
 |_=>none
def R6:List DV->Option W5
 |[.one (.p .XJ)]=>some (.pure (.one (.p (.int .i64 (.ofNat 0)))))
 |[.one (.p (.Xv es))]=>some (.pure (.one (.p (.int .i64 (.ofNat es.length)))))
 |[.one (.own _ _ _ len)]=>some (.pure (.one (.p (.int .i64 (.ofNat len)))))
 |_=>none
def Ns (n:Nat):List DV->Option W5
 |[_]=>some (.pure (.one (.p (.int .i64 (.ofNat n)))))
 |_=>none
def WK (e sz bytes n:Nat)(new:List (List DL))(ids:List Nat):Option W5:=
 bif Nat.ble (new.length*bytes) lim&&Nat.ble new.length 9223372036854775807 then
  match new with
  |[]=>some ⟨.one (.p .XJ),[],[],ids⟩
  |_=>some ⟨.one (.own n 0 0 new.length),[⟨false,0,sz,new,false,e⟩],[],ids⟩
 else none
def U1 (base e sz bytes id XZ len:Nat)(b:Xz)(new:List (List DL))(ids:List Nat):Option W5:=
 bif Nat.beq b.XZ XZ&& !b.mp&& !b.fz&&Nat.beq b.ch.length len&&Nat.beq b.sz sz&&Nat.beq b.ty e&&Nat.ble base id&&Nat.ble ((len+new.length)*bytes) lim&&Nat.ble (len+new.length) 9223372036854775807 then
  some ⟨.one (.own id (XZ+1) 0 (len+new.length)),[],[(id,{b with XZ:=XZ+1,ch:=b.ch++new})],id::ids⟩
 else none
def S2 (base e sz id XZ len:Nat)(b:Xz)(new:List (List DL))(ids:List Nat):Option W5:=
 bif Nat.beq b.XZ XZ&& !b.mp&& !b.fz&&Nat.ble (len+new.length) b.ch.length&&Nat.beq b.sz sz&&Nat.beq b.ty e&&Nat.ble base id then
  some ⟨.one (.own id XZ 0 (len+new.length)),[],[(id,{b with ch:=b.ch.take len++new++b.ch.drop (len+new.length)})],id::ids⟩
 else none
def W3 (base e sz bytes:Nat)(h:HF)(n:Nat):List DV->Option W5
 |[.one x,.one y]=>match Wt h y with
  |some (new,ids)=>bif new.all (fun c=>Nat.beq c.length sz)then
    match x with
    | .p .XJ=>WK e sz bytes n new ids
    | .own id XZ 0 len=>match h id with
      |some b=>bif Nat.beq b.ch.length len then U1 base e sz bytes id XZ len b new ids else S2 base e sz id XZ len b new ids
      |none=>none
    |_=>none
   else none
  |none=>none
 |_=>none
def Ub (e:Nat)(z:List PL)(bytes n:Nat):List DV->Option W5
 |[.one (.p (.int _ (.ofNat l))),.one (.p (.int _ (.ofNat c)))]=>
  bif Nat.ble l c&&Nat.ble (bytes*c) lim&&Nat.ble c 9223372036854775807 then
   some ⟨.one (.own n 0 0 l),[⟨false,0,z.length,List.replicate l (z.map .p),false,e⟩],[],[]⟩
  else none
 |_=>none
def RD (pickNew:Int->Int->Bool):List DV->Option W5
 | .one (.p (.int k a))::vs=>match maxD pickNew k a vs with
   |some v=>some (.pure v)
   |none=>none
 |_=>none
def Oq (base sz id XZ off len:Nat)(b:Xz)(new:List (List DL))(ids:List Nat):Option W5:=
 bif Nat.beq b.XZ XZ&& !b.mp&& !b.fz&&Nat.beq b.sz sz&&Nat.ble (off+len) b.ch.length&&new.all (fun c=>Nat.beq c.length sz)&&(Nat.ble base id||new.all Qh)then
  some ⟨.one (.p (.int .i64 (.ofNat (Nat.min len new.length)))),[],[(id,{b with ch:=b.ch.take off++new.take len++b.ch.drop (off+Nat.min len new.length)})],id::ids⟩
 else none
def Pg (base sz:Nat)(h:HF):List DV->Option W5
 |[.one (.own id XZ off len),.one y]=>match h id with
  |some b=>match Wt h y with
   |some (new,ids)=>Oq base sz id XZ off len b new ids
   |none=>none
  |none=>none
 |_=>none
def R7 (base:Nat)(z:List PL)(h:HF):List DV->Option W5
 |[.one (.own id XZ off len)]=>match h id with
  |some b=>bif Nat.beq b.XZ XZ&& !b.mp&& !b.fz&&Nat.beq b.sz z.length&&Nat.ble (off+len) b.ch.length&&Nat.ble base id then
    some ⟨.XY [],[],[(id,{b with ch:=b.ch.take off++List.replicate len (z.map .p)++b.ch.drop (off+len)})],[id]⟩
   else none
  |none=>none
 |_=>none
def pE (agg:Bool):Nat:=bif agg then 1 else 0
def TA (VB:Nat)(agg:Bool)(n:Nat):List DV->Option W5
 |[]=>some ⟨.one (.mp n),[⟨false,0,VB,[],true,pE agg⟩],[],[]⟩
 |_=>none
def rn (VB:Nat)(agg:Bool)(z:List PL):Option (Nat×List DL)->Option DV
 |some (_,c)=>ue agg (c.drop VB)
 |none=>ue agg (z.map .p)
def NA (VB:Nat)(k:IntKind)(agg:Bool)(z:List PL)(ok:Bool)(id:Nat)(b:Xz)(kc:List DL):Option W5:=
 bif b.mp&&Nat.beq b.sz VB&&Nat.beq kc.length VB&&Nat.beq b.ty (pE agg)&&(Wk k kc kc).isSome then
  match TU k VB kc b.ch 0 with
  |some r=>match rn VB agg z r with
   |some v=>some ⟨bif ok then .XY [v,.one (.p (.bool r.isSome))]else v,[],[],[id]⟩
   |none=>none
  |none=>none
 else none
def UL (VB:Nat)(k:IntKind)(agg:Bool)(z:List PL)(ok:Bool)(h:HF):List DV->Option W5
 |[.one (.mp id),.agg kc]=>match h id with
  |some b=>NA VB k agg z ok id b kc
  |none=>none
 |_=>none
def DV.isAgg:DV->Bool
 | .agg _=>true
 |_=>false
def ez (VB:Nat)(k:IntKind)(id:Nat)(b:Xz)(kc xc:List DL):Option W5:=
 match TU k VB kc b.ch 0 with
 |some (some (i,_))=>some ⟨.XY [],[],[(id,{b with ch:=b.ch.set i (kc++xc)})],[id]⟩
 |some none=>some ⟨.XY [],[],[(id,{b with ch:=b.ch++[kc++xc]})],[id]⟩
 |none=>none
def Vf (VB:Nat)(k:IntKind)(agg:Bool)(vsz:Nat)(h:HF):List DV->Option W5
 |[.one (.mp id),.agg kc,x]=>match h id with
  |some b=>match x.cells with
   |some xc=>bif b.mp&& !b.fz&&Nat.beq b.sz VB&&Nat.beq kc.length VB&&Nat.beq xc.length vsz&&Nat.beq b.ty (pE agg)&&(x.isAgg==agg)&&(Wk k kc kc).isSome then
     ez VB k id b kc xc
    else none
   |none=>none
  |none=>none
 |_=>none
def Tb (h:HF):List DV->Option W5
 |[.one (.mp id)]=>match h id with
  |some b=>bif b.mp&& !Nat.beq b.ty 2 then some ⟨.one (.p (.int .i64 (.ofNat b.ch.length))),[],[],[id]⟩else none
  |none=>none
 |_=>none
def qL:DV->Option DL
 | .one l=>some l
 |_=>none
def Uj (f:Nat)(vs:List DV):Option W5:=
 match Xt qL vs with
 |some caps=>some (.pure (.one (.fn f caps)))
 |none=>none
def WO (E:Xb)(h:HF)(f:Nat)(vs:List DV):Option W5:=
 match E.mode f with
 | .pure=>match Xt (XU h) vs with
   |some ps=>match E.pure f ps with
    |some r=>bif(vs.flatMap (Sa h)).isEmpty||r.scalar then some ⟨inj r,[],[],vs.flatMap (Sa h)⟩
     else some ⟨inj r,[],(vs.flatMap (Sa h)).filterMap (fun id=>(h id).map fun b=>(id,{b with fz:=true})),vs.flatMap (Sa h)⟩
    |none=>none
   |none=>none
 |_=>none
def UY (E:Xb)(h:HF):List DV->Option W5
 | .one (.p (.fn f caps))::vs=>WO E h (dG f) (ru f vs (caps.map fun l=>.one (.p l)))
 | .one (.fn f caps)::vs=>WO E h (dG f) (ru f vs (caps.map .one))
 |_=>none
def Wc (E:Xb)(base:Nat)(op:aX)(vs:List DV)(h:HF)(n:Nat):Option W5:=
 match op with
 | .move=>Nr vs
 | .nilCheck=>Sr vs
 | .pick=>Nq vs
 | .box t=>ao t n vs
 | .alloc t z=>R8 t z n vs
 | .build z places=>Ph z places vs
 | .buildSlice e z len places=>VR e z len places n vs
 | .load agg sz=>Pe agg sz h vs
 | .store sz=>R4 base sz h vs
 | .bin op=>fw op vs
 | .wC neq=>Nu neq vs
 | .cq neq=>VS neq vs
 | .NN neq k len=>Vl neq k len vs
 | .un op=>fv op vs
 | .conv k=>Nt k vs
 | .fieldAddr off=>Uc off vs
 | .Pr sz=>VA sz h vs
 | .fW len sz=>SM len sz vs
 | .Tg=>VY vs
 | .fV len agg sz=>TR len agg sz vs
 | .field agg sz off=>Pf agg sz off vs
 | .slice sz lo hi=>R5 sz lo hi h vs
 | .extract m=>Ss m vs
 | .len=>R6 vs
 | .yZ m=>Ns m vs
 | .append e sz bytes=>W3 base e sz bytes h n vs
 | .makeSlice e z bytes=>Ub e z bytes n vs
 | .max=>RD T5 vs
 | .min=>RD (fun a b=>T5 b a) vs
 | .copy sz=>Pg base sz h vs
 | .makeMap VB agg=>TA VB agg n vs
 | .lookup VB k agg z ok=>UL VB k agg z ok h vs
 | .mapUpdate VB k agg vsz=>Vf VB k agg vsz h vs
 | .Oc=>Tb h vs
 | .makeFunc f=>Uj f vs
 | .call f=>WO E h f vs
 | .U3=>UY E h vs
 | .clear z=>R7 base z h vs
 | .slice3=>QE vs
structure St where
 T:List (Nat×DV)
 H:List Xz
def Xh:List (Nat×DV)->Nat->Option DV
 |[],_=>none
 |(t,v)::T,n=>bif Nat.beq t n then some v else Xh T n
def W8.eval (T:List (Nat×DV)):W8->Option DV
 | .t n=>Xh T n
 | .c v=>some (inj v)
def A0 {α β:Type}:List α->Nat->α->(List α->β)->β
 |[],_,_,k=>k []
 |_::xs,0,v,k=>k (v::xs)
 |x::xs,n+1,v,k=>A0 xs n v fun ys=>k (x::ys)
def Cr {α β:Type}:List α->List α->(List α->β)->β
 |[],ys,k=>k ys
 |x::xs,ys,k=>Cr xs ys fun zs=>k (x::zs)
def nS {β:Type}(n:Nat)(k:Nat->β):β:=
 match n with
 |0=>k 0
 |m+1=>k (m+1)
def DQ {β:Type}(n:Int)(k:Int->β):β:=
 match n with
 | .ofNat m=>nS m fun m=>k (.ofNat m)
 | .negSucc m=>nS m fun m=>k (.negSucc m)
def tz {β:Type}(l:DL)(k:DL->β):β:=
 match l with
 | .p (.int i n)=>DQ n fun n=>k (.p (.int i n))
 | .p (.bool b)=>match b with
   |true=>k (.p (.bool true))
   |false=>k (.p (.bool false))
 | .own id XZ off len=>nS XZ fun XZ=>nS off fun off=>nS len fun len=>k (.own id XZ off len)
 | .ptr id XZ i off=>nS i fun i=>nS off fun off=>k (.ptr id XZ i off)
 |l=>k l
def dV {β:Type}:List DL->(List DL->β)->β
 |[],k=>k []
 |l::ls,k=>tz l fun l=>dV ls fun ls=>k (l::ls)
def AO {β:Type}(v:DV)(k:DV->β):β:=
 match v with
 | .one l=>tz l fun l=>k (.one l)
 | .agg cs=>dV cs fun cs=>k (.agg cs)
 | .XY vs=>k (.XY vs)
def VH (H:List Xz):List (Nat×Xz)->List Xz
 |[]=>H
 |(id,b)::ws=>VH (H.set id b) ws
def O4 (T:List (Nat×DV))(dst:Option Nat)(v:DV):List (Nat×DV):=
 match dst with
 |some d=>(d,v)::T
 |none=>T
def Bv {β:Type}(T:List (Nat×DV))(dst:Option Nat)(v:DV)(k:List (Nat×DV)->β):β:=
 match dst with
 |some d=>k ((d,v)::T)
 |none=>k T
def FG {β:Type}(H:List Xz):List (Nat×Xz)->(List Xz->β)->β
 |[],k=>k H
 |(id,b)::ws,k=>A0 H id b fun H=>FG H ws k
def Gg {β:Type}(H al:List Xz)(k:List Xz->β):β:=
 match al with
 |[]=>k H
 |_=>Cr H al k
def OB (H al:List Xz):List Xz:=
 match al with
 |[]=>H
 |_=>H++al
structure RW where
 i:Nat
 rd:List Nat
 wr:List Nat
 after:List Nat
 lo:Nat
 hi:Nat
def UD (T:List (Nat×DV)):Option (Nat×Bool)->Option Bool
 |none=>some true
 |some (t,want)=>
  match Xh T t with
  |some (.one (.p (.bool b)))=>some (b==want)
  |some (.XY [])=>some false
  |_=>none
def Xl (H:List Xz):HF:=fun id=>H[id]?
def W7 (E:Xb)(dst:Option Nat)(f:Nat)(vs:List DV)(s:St):Option (St×List Nat×List Nat):=
 match E.mode f with
 | .heap=>match E.heap f vs s.H with
   |some (v,H)=>Bv s.T dst v fun T=>some (⟨T,H⟩,[],[])
   |none=>none
 | .pure=>none
def W1 (E:Xb)(f:Nat):Bool:=
 match E.mode f with
 | .pure=>false
 |_=>true
def Xk (E:Xb)(op:aX):Bool:=
 match op with
 | .call f=>W1 E f
 |_=>false
def XG (E:Xb)(op:aX)(vs:List DV):Bool:=
 match op with
 | .call f=>W1 E f
 | .U3=>match vs with
   | .one (.p (.fn f _))::_=>W1 E (dG f)
   | .one (.fn f _)::_=>W1 E (dG f)
   |_=>false
 |_=>false
def QM (E:Xb)(o:Xx)(vs:List DV)(s:St):Option (St×List Nat×List Nat):=
 match o.op with
 | .call f=>W7 E o.dst f vs s
 | .U3=>match vs with
   | .one (.p (.fn f caps))::vs=>W7 E o.dst (dG f) (ru f vs (caps.map fun l=>.one (.p l))) s
   | .one (.fn f caps)::vs=>W7 E o.dst (dG f) (ru f vs (caps.map .one)) s
   |_=>none
 |_=>none
def QN (o:Xx)(s:St)(r:W5):Option (St×List Nat×List Nat):=
 AO r.val fun v=>Bv s.T o.dst v fun T=>FG s.H r.wr fun H=>Gg H r.al fun H=>some (⟨T,H⟩,r.rd,r.wr.map (·.1))
def WZ (E:Xb)(base:Nat)(heap:Bool)(o:Xx)(s:St):Option (St×List Nat×List Nat):=
 match UD s.T o.guard with
 |none=>none
 |some false=>Bv s.T o.dst (.XY []) fun T=>some (⟨T,s.H⟩,[],[])
 |some true=>
  match Xt (W8.eval s.T) o.args with
  |none=>none
  |some vs=>bif heap&&XG E o.op vs then QM E o vs s else
   match Wc E base o.op vs (Xl s.H) s.H.length with
   |some r=>QN o s r
   |none=>none
def Uf (E:Xb)(base:Nat):List Xx->St->Option St
 |[],s=>some s
 |o::os,s=>
  match WZ E base true o s with
  |some (s,_,_)=>Uf E base os s
  |none=>none
def TZ (l:List Nat):Nat->Bool
 |0=>true
 |i+1=>l.contains i&&TZ l i
def Uy (E:Xb)(base:Nat):Nat->List Xx->St->Option (St×List RW)
 |_,[],s=>some (s,[])
 |i,o::os,s=>
  bif Xk E o.op&& !(os.isEmpty&&TZ o.after i)then none else
  match WZ E base (Xk E o.op) o s with
  |some (s1,rd,wr)=>
   match Uy E base (i+1) os s1 with
   |some (s2,fs)=>some (s2,⟨i,rd,wr,o.after,s.H.length,s1.H.length⟩::fs)
   |none=>none
  |none=>none
def Oh (f g:RW):Bool:=
 Nat.beq f.i g.i||
  (f.wr.all (fun id=> !(g.wr.contains id)&&(!(g.rd.contains id)||f.after.contains g.i))&&
   g.rd.all (fun id=> !(Nat.ble f.lo id&&Nat.blt id f.hi)||g.after.contains f.i)&&
   g.wr.all (fun id=> !(Nat.ble f.lo id&&Nat.blt id f.hi)||g.after.contains f.i))
def Rl (fs:List RW):Bool:=
 fs.all fun f=>(f.wr.isEmpty&&Nat.beq f.lo f.hi)||fs.all fun g=>Oh f g
def Uz (E:Xb)(base:Nat)(ops:List Xx)(s:St):Option St:=
 match Uy E base 0 ops s with
 |some (s,fs)=>bif Rl fs then some s else none
 |none=>none
def TJ:Nat->List Xx->Bool
 |_,[]=>true
 |i,o::os=>TZ o.after i&&TJ (i+1) os
def Pu (E:Xb)(base:Nat)(pre suf:List Xx)(s:St):Option St:=
 match Uz E base pre s with
 |some s=>Uf E base suf s
 |none=>none
inductive Ex where
 |normal
 |exit (id:Nat)
 |ret
def VK (T:List (Nat×DV)):List Nat->List (Nat×DV)
 |[]=>[]
 |k::ks=>match Xh T k with
  |some v=>(k,v)::VK T ks
  |none=>VK T ks
def oq {β:Type}(T:List (Nat×DV)):List Nat->(List (Nat×DV)->β)->β
 |[],k=>k []
 |n::ns,k=>match Xh T n with
  |some v=>oq T ns fun U=>k ((n,v)::U)
  |none=>oq T ns k
def Ob (body:St->Option (Ex×St)):Nat->St->Option (Ex×St)
 |0,_=>none
 |k+1,s=>
  match body s with
  |some (.normal,s)=>Ob body k s
  |r=>r
def Qx:List Nat->List PV->List (Nat×DV)->Option (List (Nat×DV))
 |[],[],T=>some T
 |v::vs,x::xs,T=>Qx vs xs ((v,inj x)::T)
 |_,_,_=>none
def UX (T:List (Nat×DV))(body:St->Option (Ex×St))(vars:List Nat):List (List PV)->List Xz->Option (Ex×St)
 |[],H=>some (.normal,⟨T,H⟩)
 |xs::rest,H=>
  match Qx vars xs T with
  |some T1=>
   match body ⟨T1,H⟩with
   |some (.normal,s)=>UX T body vars rest s.H
   |some (.exit id,s)=>some (.exit id,⟨T,s.H⟩)
   |some (.ret,s)=>some (.ret,⟨T,s.H⟩)
   |none=>none
  |none=>none
def XE.flat:XE->Bool
 | .seq a b=>a.flat&&b.flat
 | .cond _ a b=>a.flat&&b.flat
 | .block _ c=>c.flat
 | .loop c=>c.flat
 | .V2 _ c=>c.flat
 | .scope _=>false
 | .PJ _ _ _ _=>false
 |_=>true
def TO (pre body:St->Option (Ex×St))(s:St):Option (Ex×St):=
 match pre s with
 |some (.normal,s)=>body s
 |_=>none
def XD (E:Xb)(K base:Nat):XE->St->Option (Ex×St)
 | .skip,s=>some (.normal,s)
 | .region false ops,s=>
   match Uf E base ops s with
   |some s=>some (.normal,s)
   |none=>none
 | .region true ops,s=>
   match Uz E base ops s with
   |some s=>some (.normal,s)
   |none=>none
 | .Re pre suf,s=>
   match Pu E base pre suf s with
   |some s=>some (.normal,s)
   |none=>none
 | .seq a b,s=>
   match XD E K base a s with
   |some (.normal,s)=>XD E K base b s
   |r=>r
 | .cond c a b,s=>
   match c.eval s.T with
   |some (.one (.p (.bool true)))=>XD E K base a s
   |some (.one (.p (.bool false)))=>XD E K base b s
   |_=>none
 | .block id c,s=>
   match XD E K base c s with
   |some (.exit j,s)=>bif j==id then some (.normal,s)else some (.exit j,s)
   |r=>r
 | .loop c,s=>Ob (fun s=>XD E K base c s) K s
 | .V2 ks c,s=>oq s.T ks fun T=>XD E K base c ⟨T,s.H⟩
 | .scope c,s=>XD E K base c s
 | .exit id,s=>some (.exit id,s)
 | .ret,s=>some (.ret,s)
 | .PJ f vars pre body,s=>
   match f.eval s.T with
   |some (.one (.p (.fn f caps)))=>
    match E.iter f caps with
    |some xss=>bif pre.flat&&body.flat&&Nat.blt f NL then UX s.T (TO (fun s=>XD E K base pre s) (fun s=>XD E K base body s)) vars xss s.H else none
    |none=>none
   |_=>none
def WC (s:St):Nat×Option (Bool×Nat)->Option DV
 |(t,none)=>Xh s.T t
 |(t,some (agg,sz))=>
  match Xh s.T t with
  |some (.one (.ptr id XZ i off))=>
   match s.H[id]? with
   |some b=>bif Nat.beq b.XZ XZ&& !b.mp then
     match b.ch[i]? with
     |some c=>
      bif agg then(bif Nat.ble (off+sz) c.length then some (.agg ((c.drop off).take sz))else none)
      else match c.drop off with
       |d::_=>some (.one d)
       |[]=>none
     |none=>none
    else none
   |none=>none
  |_=>none
def uf {β:Type}:List DV->Nat->(List (Nat×DV)->β)->β
 |[],_,k=>k []
 |v::vs,i,k=>uf vs (i+1) fun T=>k ((i,v)::T)
def Sv (E:Xb)(K:Nat)(xf:W4)(args:List DV)(H:List Xz):Option (List DV×St):=
 match(bif Nat.ble args.length xf.ntmps then uf args 0 fun T=>XD E K 0 xf.body ⟨T,H⟩else none)with
 |some (.normal,s)|some (.ret,s)=>
  match Xt (WC s) xf.results with
  |some rs=>some (rs,s)
  |none=>none
 |_=>none
def cM:List PV->PV
 |[v]=>v
 |vs=>.XY vs
def UZ (E:Xb)(K:Nat)(xf:W4)(args:List PV):Option PV:=
 match Sv E K xf (args.map inj) []with
 |some (rs,s)=>
  match Xt (XU (Xl s.H)) rs with
  |some ps=>some (cM ps)
  |none=>none
 |none=>none
def sV:List DV->DV
 |[v]=>v
 |vs=>.XY vs
def DV.plain:DV->Bool
 | .XY _=>false
 |_=>true
def VU (E:Xb)(K:Nat)(xf:W4)(args:List DV)(H:List Xz):Option (DV×List Xz):=
 match Sv E K xf args H with
 |some (rs,s)=>bif rs.all DV.plain then some (sV rs,s.H)else none
 |none=>none
def lift (X:Nat->Option W4)(K:Nat)(E:Xb):Xb:=
 ⟨E.mode,
  fun f args=>match X f with
   |some xf=>UZ E K xf args
   |none=>E.pure f args,
  fun f args H=>match X f with
   |some xf=>VU E K xf args H
   |none=>E.heap f args H,
  E.iter⟩
def ev (E0:Xb)(X:Nat->Option W4)(K:Nat):Nat->Xb
 |0=>E0
 |n+1=>lift X K (ev E0 X K n)
def iF:Value->Option PL
 | .bool b=>some (.bool b)
 | .int k n=>some (.int k n)
 | .slice none 0 0=>some .XJ
 | .string s=>some (.str (s.data.toList.map UInt8.toNat))
 | .nilFunc=>some .RJ
 | .nilIface=>some .RJ
 | .pointer none=>some .RJ
 |_=>none
def BM:Value->Option PV
 | .agg cs=>match Xt iF cs.toList with
   |some ls=>some (.agg ls)
   |none=>none
 | .tuple vs=>if vs.isEmpty then some (.XY [])else none
 |v=>match iF v with
  |some l=>some (.one l)
  |none=>none
def zeroOf (P:Program)(t:TypeId):Option (List PL):=
 match P.info? t with
 |some i=>match i.zero with
  |some z=>match Xt iF z.cells.toList with
   |some ls=>if ls.length==i.size then some ls else none
   |none=>none
  |none=>none
 |none=>none
def Wq (P:Program)(t:TypeId):Option Nat:=(P.info? t).map (·.size)
def aR (P:Program)(t:TypeId):Option Nat:=(P.info? t).map (·.bytes)
def cr (P:Program)(t:TypeId):Option Bool:=
 match P.underlying t with
 |some (.struct _)=>some true
 |some (.array _ _)=>some true
 |some _=>some false
 |none=>none
def Qt (P:Program)(t:TypeId):Option Bool:=
 match P.info? t with
 |some i=>match i.zero with
  |some (.agg _)=>some true
  |some v=>if v.oneCell' then some false else none
  |none=>none
 |none=>none
def XA:Operand->Option W8
 | .tmp t=>some (.t t)
 | .const v=>match BM v with
   |some l=>some (.c l)
   |none=>none
 | .func f=>if Nat.blt f NL then some (.c (.one (.fn f [])))else none
 | .global _=>none
def QS (a:Array Operand):Option (List W8):=Xt XA a.toList
def TF:Option Operand->Option (List W8)
 |none=>some []
 |some x=>match XA x with
  |some y=>some [y]
  |none=>none
def fO (P:Program)(t:TypeId):Option (Nat×IntKind):=
 match P.underlying t with
 |some (.array n e)=>match P.underlying e,Wq P e with
  |some (.int k),some 1=>some (n,k)
  |_,_=>none
 |_=>none
def XQ (P:Program)(b:Builtin)(ts:Array TypeId):Option aX:=
 match b with
 | .len=>match ts[0]? with
   |some t=>match P.underlying t with
    |some (.slice _)=>some .len
    |some (.array n _)=>some (.yZ n)
    |some (.map _ _)=>some .Oc
    |_=>none
   |none=>none
 | .append=>match ts.toList with
   |[t,u]=>if t==u then
      match P.underlying t with
      |some (.slice e)=>match zeroOf P e,aR P e with
       |some z,some b=>if 0<z.length then some (.append e z.length b)else none
       |_,_=>none
      |_=>none
    else none
   |_=>none
 | .copy=>match ts.toList with
   |[t,u]=>if t==u then
      match P.underlying t with
      |some (.slice e)=>match Wq P e with
       |some (n+1)=>some (.copy (n+1))
       |_=>none
      |_=>none
    else none
   |_=>none
 | .clear=>match ts.toList with
   |[t]=>match P.underlying t with
    |some (.slice e)=>match zeroOf P e with
     |some z=>if 0<z.length then some (.clear z)else none
     |none=>none
    |_=>none
   |_=>none
 | .max=>some .max
 | .min=>some .min
 |_=>none
def XT (P:Program)(o:Op):Option (aX×List W8):=
 match o with
 | .move x| .assign x=>match XA x with
   |some x=>some (.move,[x])
   |none=>none
 | .nilCheck x=>match XA x with
   |some x=>some (.nilCheck,[x])
   |none=>none
 | .pick c a b=>match XA c,XA a,XA b with
   |some c,some a,some b=>some (.pick,[c,a,b])
   |_,_,_=>none
 | .box t x=>match XA x with
   |some x=>some (.box t,[x])
   |none=>none
 | .alloc t=>match zeroOf P t with
   |some z=>some (.alloc t z,[])
   |none=>none
 | .build t parts=>
   match zeroOf P t,Xt (fun x=>XA x.2) parts.toList with
   |some z,some xs=>
    match P.underlying t with
    |some (.struct fs)=>
     match Xt (fun f:Field=>match Wq P f.type with |some s=>some (f.offset,s)|none=>none) fs.toList with
     |some places=>match Xt (fun x:Nat×Operand=>places[x.1]?) parts.toList with
      |some pl=>some (.build z pl,xs)
      |none=>none
     |none=>none
    |some (.array _ e)=>match Wq P e with
     |some s=>some (.build z (parts.toList.map fun x=>(x.1*s,s)),xs)
     |none=>none
    |_=>none
   |_,_=>none
 | .buildSlice t len parts=>
   match P.underlying t with
   |some (.slice e)=>
    match zeroOf P e,Xt (fun x=>XA x.2) parts.toList with
    |some z,some xs=>if 0<z.length&&Nat.ble (len*z.length) 16777216 then some (.buildSlice e z len (parts.toList.map (·.1)),xs)else none
    |_,_=>none
   |_=>none
 | .load t x=>match cr P t,Wq P t,XA x with
   |some a,some s,some x=>some (.load a s,[x])
   |_,_,_=>none
 | .store t a x=>match Wq P t,XA a,XA x with
   |some s,some a,some x=>some (.store s,[a,x])
   |_,_,_=>none
 | .binOp op t x y _=>
   match XA x,XA y with
   |some x,some y=>
    match P.underlying t with
    |some (.int _)=>some (.bin op,[x,y])
    |some .bool=>match op with
     | .eql=>some (.wC false,[x,y])
     | .neq=>some (.wC true,[x,y])
     |_=>none
    |some (.slice _)=>match op with
     | .eql=>some (.cq false,[x,y])
     | .neq=>some (.cq true,[x,y])
     |_=>none
    |some (.array n e)=>match P.underlying e,Wq P e,P.eqGuardType P.depth t with
     |some (.int k),some 1,false=>match op with
      | .eql=>some (.NN false k n,[x,y])
      | .neq=>some (.NN true k n,[x,y])
      |_=>none
     |_,_,_=>none
    |_=>none
   |_,_=>none
 | .unOp op _ x=>match XA x with
   |some x=>some (.un op,[x])
   |none=>none
 | .convert s d x=>match P.underlying s,P.underlying d,XA x with
   |some _,some (.int k),some x=>some (.conv k,[x])
   |_,_,_=>none
 | .makeFunc (.func f) first caps=>if first.isEmpty then
   match QS caps with
   |some cs=>if Nat.blt f NL then some (.makeFunc f,cs)else none
   |none=>none
   else if caps.isEmpty then
    match QS first with
    |some cs=>some (.makeFunc (f+NL),cs)
    |none=>none
   else none
 | .makeSlice t l c=>
   match P.underlying t with
   |some (.slice e)=>match zeroOf P e,aR P e,XA l,XA c with
    |some z,some b,some l,some c=>if 0<z.length then some (.makeSlice e z b,[l,c])else none
    |_,_,_,_=>none
   |_=>none
 | .slice t x lo hi none=>
   match P.underlying t with
   |some (.slice e)=>match XA x,TF lo,TF hi,Wq P e with
    |some x,some l,some h,some s=>some (.slice s lo.isSome hi.isSome,x::(l++h))
    |_,_,_,_=>none
   |_=>none
 | .slice t x (some lo) (some hi) (some mx)=>
   match P.underlying t with
   |some (.slice e)=>match XA x,XA lo,XA hi,XA mx,Wq P e with
    |some x,some l,some h,some m,some _=>some (.slice3,[x,l,h,m])
    |_,_,_,_,_=>none
   |_=>none
 | .fieldAddr s x f=>match P.underlying s with
   |some (.struct fs)=>match fs[f]? with
    |some fl=>match Wq P fl.type,XA x with
     |some (_+1),some x=>some (.fieldAddr fl.offset,[x])
     |_,_=>none
    |none=>none
   |_=>none
 | .field s x f=>match P.underlying s with
   |some (.struct fs)=>match fs[f]? with
    |some fl=>match cr P fl.type,Wq P fl.type,XA x with
     |some a,some sz,some x=>some (.field a sz fl.offset,[x])
     |_,_,_=>none
    |none=>none
   |_=>none
 | .indexAddr t x i=>match P.underlying t,XA x,XA i with
   |some (.slice e),some x,some i=>match Wq P e with
    |some s=>some (.Pr s,[x,i])
    |none=>none
   |some (.array n e),some x,some i=>match Wq P e with
    |some s=>some (.fW n s,[x,i])
    |none=>none
   |_,_,_=>none
 | .index t x i=>match P.underlying t,XA x,XA i with
   |some .string,some x,some i=>some (.Tg,[x,i])
   |some (.array n e),some x,some i=>match cr P e,Wq P e with
    |some a,some s=>some (.fV n a s,[x,i])
    |_,_=>none
   |_,_,_=>none
 | .makeMap t none=>match P.underlying t with
   |some (.map k e)=>match fO P k,Qt P e with
    |some (n,_),some a=>some (.makeMap n a,[])
    |_,_=>none
   |_=>none
 | .lookup t x i ok=>match P.underlying t with
   |some (.map k e)=>match fO P k,Qt P e,zeroOf P e,XA x,XA i with
    |some (n,kk),some a,some z,some x,some i=>some (.lookup n kk a z ok,[x,i])
    |_,_,_,_,_=>none
   |_=>none
 | .mapUpdate t m k x=>match P.underlying t with
   |some (.map kt e)=>match fO P kt,Qt P e,Wq P e,XA m,XA k,XA x with
    |some (n,kk),some a,some s,some m,some k,some x=>some (.mapUpdate n kk a s,[m,k,x])
    |_,_,_,_,_,_=>none
   |_=>none
 | .extract x n=>match XA x with
   |some x=>some (.extract n,[x])
   |none=>none
 | .call c=>match QS c.args with
   |some xs=>
    match c.callee with
    | .builtin b=>match XQ P b c.argTypes with
      |some op=>some (op,xs)
      |none=>none
    | .value (.func f)=>some (.call f,xs)
    | .value x=>match XA x with
      |some x=>some (.U3,x::xs)
      |none=>none
    | .invoke _ _=>none
   |none=>none
 |_=>none
def PE (nt:Nat):Option Nat->Bool
 |none=>true
 |some d=>Nat.blt d nt
def Sw (ops:List Oper):Option (Nat×Bool)->Option (Option (Nat×Bool))
 |none=>some none
 |some (j,want)=>match ops[j]? with
  |some g=>match g.dst with
   |some d=>some (some (d,want))
   |none=>none
  |none=>none
def Up (P:Program)(nt:Nat)(ops:List Oper)(o:Oper):Option Xx:=
 match XT P o.op with
 |some (op,args)=>match Sw ops o.guard with
  |some g=>if PE nt o.dst then some ⟨o.dst,op,args,g,(o.after.toList.filter (Region.binds .any)).map (·.on)⟩else none
  |none=>none
 |none=>none
def W8.tmp:W8->List Nat
 | .t n=>[n]
 | .c _=>[]
def Xx.tmps (o:Xx):List Nat:=
 o.args.flatMap W8.tmp++(match o.guard with |some (t,_)=>[t]|none=>[])
def gg (ops:List Xx):Bool:=
 ops.zipIdx.all fun(o,i)=>
  o.after.all (fun j=>Nat.blt j i)&&
  ops.zipIdx.all fun(q,j)=>i==j||
   match q.dst with
   |none=>true
   |some d=>(match o.dst with |some e=>d !=e|none=>true)&&
    (!(o.tmps.contains d)||o.after.contains j||q.after.contains i)
def ej (done:List Xx)(j:Nat):List Nat:=
 match done[j]? with
 |some p=>p.after
 |none=>[]
def dd:List Nat->List Nat
 |[]=>[]
 |x::xs=>bif xs.contains x then dd xs else x::dd xs
def WD:List Xx->List Xx->List Xx
 |done,[]=>done
 |done,o::os=>WD (done++[{o with after:=dd (o.after++o.after.flatMap (ej done))}]) os
theorem qS (x:Nat):∀l:List Nat,x∈dd l↔x∈l
 |[]=>by simp[dd]
 |y::l=>by
  have a:=qS x l;simp only[dd];cases b:l.contains y with
  |true=>
   have c:y∈l:=by simpa using b
   simp only[cond_true,a,Zk];exact⟨.inr,fun h=>h.elim (fun e=>e▸c) id⟩
  |false=>simp only[cond_false,Zk,a]
def Xx.bare (o:Xx):Xx:={o with after:=[]}
def XO (P:Program)(nt:Nat):Code->Option XE
 | .skip=>some .skip
 | .region _ ops draws=>
   match Xt (Up P nt ops.toList) ops.toList with
   |some os=>if draws then(if gg (WD [] os)then some (.region true (WD [] os))else none)else some (.region false (os.map Xx.bare))
   |none=>none
 | .seq a b=>match XO P nt a,XO P nt b with
   |some a,some b=>some (.seq a b)
   |_,_=>none
 | .cond c a b=>match XA c,XO P nt a,XO P nt b with
   |some c,some a,some b=>some (.cond c a b)
   |_,_,_=>none
 | .block id c=>match XO P nt c with
   |some c=>some (.block id c)
   |none=>none
 | .loop c=>match XO P nt c with
   |some c=>some (.loop c)
   |none=>none
 | .exit id=>some (.exit id)
 | .ret=>some .ret
 | .scope c=>match XO P nt c with
   |some c=>some (.scope c)
   |none=>none
 | .label _=>some .skip
 | .rangeFunc f vars pre body=>match XA f,XO P nt pre,XO P nt body with
   |some f,some pre,some body=>if vars.toList.all (fun v=>Nat.blt v nt)then some (.PJ f vars.toList pre body)else none
   |_,_,_=>none
 |_=>none
def Ro (P:Program):ResultVar->Option (Nat×Option (Bool×Nat))
 | .tmp t=>some (t,none)
 | .cell a t=>match cr P t,Wq P t with
   |some g,some s=>some (a,some (g,s))
   |_,_=>none
def oY (P:Program)(fn:Func):Option W4:=
 if fn.name == "runtime.NumGoroutine" then none else
 match fn.body with
 |some c=>match XO P fn.ntmps c,Xt (Ro P) fn.results.toList with
  |some c,some rs=>some ⟨fn.ntmps,rs,c⟩
  |_,_=>none
 |none=>none
def XE.erase:XE->XE
 | .seq a b=>.seq a.erase b.erase
 | .cond c a b=>.cond c a.erase b.erase
 | .block id c=>.block id c.erase
 | .loop c=>.loop c.erase
 | .V2 _ c=>c.erase
 | .scope c=>.scope c.erase
 | .PJ f vs a b=>.PJ f vs a.erase b.erase
 | .Re pre suf=>bif TJ pre.length suf then .region true (pre++suf)else .V2 [] .skip
 |c=>c
end Go.Ev
