/- Definitions: abstract values, a small instruction set with all sizes resolved, and a deterministic interpreter over abstract values. Nothing is proved here. -/
import Derived.Test.YtidginchkjhobaaGreatZ
import Derived.WalkKit
namespace Go.Ev
inductive PL where
 |bool (b:Bool)
 |int (k:IntKind) (n:Int)
 |XC
 |Xp (es:List (List PL))
 |ref (cs:List PL)
 |fn (f:Nat) (caps:List PL)
 |str (bs:List Nat)
 |RB
inductive DL where
 |p (l:PL)
 |own (id XX off len:Nat)
 |ptr (id XX i off:Nat)
 |fn (f:Nat) (caps:List DL)
 |mp (id:Nat)
inductive PV where
 |one (l:PL)
 |agg (cs:List PL)
 |XZ (vs:List PV)
inductive DV where
 |one (l:DL)
 |agg (cs:List DL)
 |XZ (vs:List DV)
structure Xz where
 fz:Bool
 XX:Nat
 sz:Nat
 ch:List (List DL)
 mp:Bool
 ty:Nat
inductive W8 where
 |t (n:Nat)
 |c (v:PV)
inductive aT where
 |move
 |nilCheck
 |pick
 |box (t:Nat)
 |alloc (t:Nat) (z:List PL)
 |build (z:List PL) (places:List (Nat×Nat))
 |buildSlice (e:Nat) (z:List PL) (len:Nat) (places:List Nat)
 |load (agg:Bool) (sz:Nat)
 |store (sz:Nat)
 |bin (op:BinOp)
 |wK (neq:Bool)
 |cu (neq:Bool)
 |NC (neq:Bool) (k:IntKind) (len:Nat)
 |un (op:UnOp)
 |conv (k:IntKind)
 |fieldAddr (off:Nat)
 |Q7 (sz:Nat)
 |fY (len sz:Nat)
 |Th
 |fX (len:Nat) (agg:Bool) (sz:Nat)
 |field (agg:Bool) (sz off:Nat)
 |slice (sz:Nat) (lo hi:Bool)
 |extract (n:Nat)
 |len
 |yZ (n:Nat)
 |append (e sz bytes:Nat)
 |makeSlice (e:Nat) (z:List PL) (bytes:Nat)
 |max
 |min
 |copy (sz:Nat)
 |makeMap (Vx:Nat) (agg:Bool)
 |lookup (Vx:Nat) (k:IntKind) (agg:Bool) (z:List PL) (ok:Bool)
 |mapUpdate (Vx:Nat) (k:IntKind) (agg:Bool) (vsz:Nat)
 |PY
 |makeFunc (f:Nat)
 |call (f:Nat)
 |TF
 |clear (z:List PL)
 |slice3
structure Xw where
 dst:Option Nat
 op:aT
 args:List W8
 guard:Option (Nat×Bool)
 after:List Nat
inductive XH where
 |skip
 |region (draws:Bool) (ops:List Xw)
 |Rb (pre suf:List Xw)
 |seq (a b:XH)
 |cond (c:W8) (a b:XH)
 |block (id:Nat) (c:XH)
 |loop (c:XH)
 |VW (ks:List Nat) (c:XH)
 |scope (c:XH)
 |exit (id:Nat)
 |ret
 |Pt (f:W8) (vars:List Nat) (pre body:XH)
def Q {α:Type}(a:α){b:α}(_h:a=b:=by conv=>lhs;reduce):α:=b
abbrev cI (n:Nat):PL:=.int .i64 (.ofNat n)
abbrev cN (n:Nat):PL:=.int .i64 (.negSucc n)
abbrev cW (n:Nat):PL:=.int .u32 (.ofNat n)
abbrev cQ (n:Nat):PL:=.int .u64 (.ofNat n)
abbrev cB (n:Nat):PL:=.int .u8 (.ofNat n)
abbrev cC (n:Nat):W8:=.c (.one (.int .i64 (.ofNat n)))
abbrev cF:W8:=.c (.one (.bool false))
abbrev cT:W8:=.c (.one (.bool true))
abbrev oP (d:Nat)(op:aT)(a:List W8):Xw:=⟨some d,op,a,none,[]⟩
abbrev oA (d:Nat)(op:aT)(a:List W8)(af:List Nat):Xw:=⟨some d,op,a,none,af⟩
abbrev oG (d:Nat)(op:aT)(a:List W8)(g:Nat)(b:Bool)(af:List Nat):Xw:=⟨some d,op,a,some (g,b),af⟩
abbrev oN (op:aT)(a:List W8)(af:List Nat):Xw:=⟨none,op,a,none,af⟩
abbrev mV (d t:Nat):Xw:=⟨some d,.move,[.t t],none,[]⟩
abbrev mA (d t:Nat)(af:List Nat):Xw:=⟨some d,.move,[.t t],none,af⟩
abbrev mC (d:Nat)(c:W8):Xw:=⟨some d,.move,[c],none,[]⟩
abbrev rG:List Xw->XH:=.region false
abbrev rD:List Xw->XH:=.region true
abbrev sQ:XH->XH->XH:=.seq
structure Vb where
 ntmps:Nat
 results:List (Nat×Option (Bool×Nat))
 body:XH
def NA:Nat:=1000
def dH (f:Nat):Nat:=bif Nat.blt f NA then f else f-NA
def rN {α:Type}(f:Nat)(vs caps:List α):List α:=bif Nat.blt f NA then vs++caps else caps++vs
def lM:PV->DV
 | .one l=>.one (.p l)
 | .agg cs=>.agg (cs.map .p)
 | .XZ _=>.XZ []
def inj:PV->DV
 | .one l=>.one (.p l)
 | .agg cs=>.agg (cs.map .p)
 | .XZ vs=>.XZ (vs.map lM)
def DV.cells:DV->Option (List DL)
 | .one l=>some [l]
 | .agg cs=>some cs
 | .XZ _=>none
abbrev HF:=Nat->Option Xz
def Xt {α β:Type}(f:α->Option β):List α->Option (List β)
 |[]=>some []
 |x::xs=>match f x with
  |none=>none
  |some y=>match Xt f xs with
   |none=>none
   |some ys=>some (y::ys)
def XA:Nat->HF->DL->Option PL
 |_,_,.p l=>some l
 |0,_,_=>none
 |n+1,h,.own id XX off len=>
  match h id with
  |some b=>bif Nat.beq b.XX XX&& !b.mp&&Nat.ble (off+len) b.ch.length then
    match Xt (Xt (XA n h)) ((b.ch.drop off).take len)with
    |some es=>some (.Xp es)
    |none=>none
   else none
  |none=>none
 |n+1,h,.ptr id XX i off=>
  match h id with
  |some b=>bif Nat.beq b.XX XX&& !b.mp then
    match b.ch[i]? with
    |some c=>match Xt (XA n h) (c.drop off)with
     |some cs=>some (.ref cs)
     |none=>none
    |none=>none
   else none
  |none=>none
 |n+1,h,.fn f caps=>match Xt (XA n h) caps with
  |some cs=>some (.fn f cs)
  |none=>none
 |_+1,_,.mp _=>none
def W1:Nat->HF->DL->List Nat
 |_,_,.p _=>[]
 |0,_,_=>[]
 |n+1,h,.own id _ off len=>
  match h id with
  |some b=>id::((b.ch.drop off).take len).flatMap fun c=>c.flatMap (W1 n h)
  |none=>[]
 |n+1,h,.ptr id _ i off=>
  match h id with
  |some b=>match b.ch[i]? with
   |some c=>id::(c.drop off).flatMap (W1 n h)
   |none=>[]
  |none=>[]
 |n+1,h,.fn _ caps=>caps.flatMap (W1 n h)
 |_+1,_,.mp _=>[]
def Ww:Nat:=6
def XY (h:HF):DV->Option PV
 | .one l=>match XA Ww h l with
   |some l=>some (.one l)
   |none=>none
 | .agg cs=>match Xt (XA Ww h) cs with
   |some cs=>some (.agg cs)
   |none=>none
 | .XZ _=>none
def FA (h:HF):DV->Option PV
 | .XZ vs=>match Xt (XY h) vs with
   |some vs=>some (.XZ vs)
   |none=>none
 |v=>XY h v
def S7 (h:HF):DV->List Nat
 | .one l=>W1 Ww h l
 | .agg cs=>cs.flatMap (W1 Ww h)
 | .XZ _=>[]
def PL.scalar:PL->Bool
 | .bool _=>true
 | .int _ _=>true
 | .XC=>true
 | .str _=>true
 | .RB=>true
 |_=>false
def PV.Ow:PV->Bool
 | .one l=>l.scalar
 | .agg cs=>cs.all PL.scalar
 | .XZ vs=>vs.isEmpty
def PV.scalar:PV->Bool
 | .XZ vs=>vs.all PV.Ow
 |v=>v.Ow
structure Vc where
 val:DV
 al:List Xz
 wr:List (Nat×Xz)
 rd:List Nat
def Vc.pure (v:DV):Vc:=⟨v,[],[],[]⟩
inductive Mode where
 |pure
 |heap
structure Xa where
 mode:Nat->Mode
 pure:Nat->List PV->Option PV
 heap:Nat->List DV->List Xz->Option (DV×List Xz)
 iter:Nat->List PL->Option (List (List PV))
def zf:IntKind->Nat
 | .i8=>0
 | .i16=>1
 | .i32=>2
 | .i64=>3
 | .u8=>4
 | .u16=>5
 | .u32=>6
 | .u64=>7
def dG (a b:IntKind):Bool:=Nat.beq (zf a) (zf b)
def zg:IntKind->Nat
 | .i8=>8
 | .i16=>16
 | .i32=>32
 | .i64=>64
 | .u8=>8
 | .u16=>16
 | .u32=>32
 | .u64=>64
def S6:IntKind->Nat
 | .i8=>256
 | .i16=>65536
 | .i32=>4294967296
 | .i64=>18446744073709551616
 | .u8=>256
 | .u16=>65536
 | .u32=>4294967296
 | .u64=>18446744073709551616
def lG:IntKind->Bool
 | .i8=>true
 | .i16=>true
 | .i32=>true
 | .i64=>true
 |_=>false
def WK (k:IntKind):Int->Nat
 | .ofNat m=>m%S6 k
 | .negSucc m=>(S6 k-1)-m%S6 k
def UB (k:IntKind)(r:Nat):Int:=
 bif lG k&&Nat.ble (S6 k / 2) r then Int.negSucc (S6 k-r-1)else Int.ofNat r
def Xe (k:IntKind)(n:Int):Int:=UB k (WK k n)
def Tf:Int->Int->Bool
 | .ofNat a,.ofNat b=>Nat.blt a b
 | .ofNat _,.negSucc _=>false
 | .negSucc _,.ofNat _=>true
 | .negSucc a,.negSucc b=>Nat.blt b a
def Pc:Int->Int->Bool
 | .ofNat a,.ofNat b=>Nat.beq a b
 | .negSucc a,.negSucc b=>Nat.beq a b
 |_,_=>false
def tQ (a b:Int):Bool:= !Tf b a
def AX (a:Int)(n:Nat):Int:=
 match a with
 | .ofNat m=>.ofNat (m / 2^n)
 | .negSucc m=>.negSucc (m / 2^n)
def T9 (k:IntKind)(n:Int):Option DL:=some (.p (.int k n))
def TX (b:Bool):Option DL:=some (.p (.bool b))
def NB (k:IntKind)(a:Int):Int->Option DL
 | .ofNat n=>T9 k (Xe k (a*Int.ofNat (2^(Nat.min n (zg k)))))
 | .negSucc _=>none
def Qb (k:IntKind)(a:Int):Int->Option DL
 | .ofNat n=>T9 k (AX a (Nat.min n (zg k)))
 | .negSucc _=>none
def Tz (k:IntKind)(a b:Int):Option DL:=bif Pc b 0 then none else T9 k (Xe k (Int.tdiv a b))
def U8 (k:IntKind)(a b:Int):Option DL:=bif Pc b 0 then none else T9 k (Int.tmod a b)
def VG (k k':IntKind)(r:Option DL):Option DL:=bif dG k k' then r else none
def Wr (op:BinOp)(k k':IntKind)(a b:Int):Option DL:=
 match op with
 | .shl=>NB k a b
 | .shr=>Qb k a b
 | .add=>VG k k' (T9 k (Xe k (a+b)))
 | .sub=>VG k k' (T9 k (Xe k (a-b)))
 | .mul=>VG k k' (T9 k (Xe k (a*b)))
 | .quo=>VG k k' (Tz k a b)
 | .rem=>VG k k' (U8 k a b)
 | .and=>VG k k' (T9 k (UB k (Nat.land (WK k a) (WK k b))))
 | .or=>VG k k' (T9 k (UB k (Nat.lor (WK k a) (WK k b))))
 | .xor=>VG k k' (T9 k (UB k (Nat.xor (WK k a) (WK k b))))
 | .andNot=>VG k k' (T9 k (UB k (Nat.land (WK k a) (Nat.xor (S6 k-1) (WK k b)))))
 | .eql=>VG k k' (TX (Pc a b))
 | .neq=>VG k k' (TX (!Pc a b))
 | .lss=>VG k k' (TX (Tf a b))
 | .leq=>VG k k' (TX (tQ a b))
 | .gtr=>VG k k' (TX (Tf b a))
 | .geq=>VG k k' (TX (tQ b a))
def DL.isNil:DL->Option Bool
 | .p .XC=>some true
 | .p (.Xp _)=>some false
 | .own _ _ _ _=>some false
 |_=>none
def Wh (k:IntKind):List DL->List DL->Option Bool
 |[],[]=>some true
 | .p (.int k1 a)::xs,.p (.int k2 b)::ys=>
   bif dG k1 k&&dG k2 k then
    match Wh k xs ys with
    |some r=>some (Pc a b&&r)
    |none=>none
   else none
 |_,_=>none
def DQ (op:UnOp):DL->Option DL
 | .p (.int k n)=>
   match op with
   | .neg=>some (.p (.int k (Xe k (0-n))))
   | .xor=>some (.p (.int k (UB k (Nat.xor (S6 k-1) (WK k n)))))
   |_=>none
 | .p (.bool b)=>
   match op with
   | .not=>some (.p (.bool (!b)))
   |_=>none
 |_=>none
def Pn:List DL->List (Nat×Nat)->List DV->Option (List DL)
 |cs,[],[]=>some cs
 |cs,(off,sz)::ps,v::vs=>
  match v.cells with
  |some ds=>bif Nat.beq ds.length sz&&Nat.ble (off+sz) cs.length then Pn (cs.take off++ds++cs.drop (off+sz)) ps vs else none
  |none=>none
 |_,_,_=>none
def Po (sz:Nat):List (List DL)->List Nat->List DV->Option (List (List DL))
 |cs,[],[]=>some cs
 |cs,i::ps,v::vs=>
  match v.cells with
  |some ds=>bif Nat.beq ds.length sz&&Nat.blt i cs.length then Po sz (cs.set i ds) ps vs else none
  |none=>none
 |_,_,_=>none
def maxD (pickNew:Int->Int->Bool):IntKind->Int->List DV->Option DV
 |k,a,[]=>some (.one (.p (.int k a)))
 |k,a,.one (.p (.int k' b))::vs=>bif dG k k' then maxD pickNew k (bif pickNew a b then b else a) vs else none
 |_,_,_=>none
def Wp (h:HF):DL->Option (List (List DL)×List Nat)
 | .p .XC=>some ([],[])
 | .p (.Xp es)=>some (es.map (·.map .p),[])
 | .own id XX off len=>
   match h id with
   |some b=>bif Nat.beq b.XX XX&& !b.mp&&Nat.ble (off+len) b.ch.length then some ((b.ch.drop off).take len,[id])else none
   |none=>none
 |_=>none
def R3:List DL->Bool
 |[]=>true
 | .p _::cs=>R3 cs
 |_::_=>false
def TU (k:IntKind)(Vx:Nat)(key:List DL):List (List DL)->Nat->Option (Option (Nat×List DL))
 |[],_=>some none
 |c::cs,i=>
  match Wh k key (c.take Vx)with
  |some true=>some (some (i,c))
  |some false=>TU k Vx key cs (i+1)
  |none=>none
def ux (agg:Bool)(cs:List DL):Option DV:=
 bif agg then some (.agg cs)else match cs with
  |[c]=>some (.one c)
  |_=>none
def lim:Nat:=140737488355328
def Nc:List DV->Option Vc
 |[x]=>some (.pure x)
 |_=>none
def Sj:List DV->Option Vc
 |[.one (.ptr id XX i off)]=>some (.pure (.one (.ptr id XX i off)))
 |[.one (.p (.ref cs))]=>some (.pure (.one (.p (.ref cs))))
 |[.one (.fn f cs)]=>some (.pure (.one (.fn f cs)))
 |[.one (.p (.fn f cs))]=>some (.pure (.one (.p (.fn f cs))))
 |_=>none
def Nb:List DV->Option Vc
 |[.one (.p (.bool c)),a,b]=>some (.pure (bif c then a else b))
 |_=>none
def aj (t n:Nat):List DV->Option Vc
 |[x]=>match x.cells with
  |some cs=>some ⟨.one (.ptr n 0 0 0),[⟨false,0,cs.length,[cs],false,t⟩],[],[]⟩
  |none=>none
 |_=>none
def RV (t:Nat)(z:List PL)(n:Nat):List DV->Option Vc
 |[]=>some ⟨.one (.ptr n 0 0 0),[⟨false,0,z.length,[z.map .p],false,t⟩],[],[]⟩
 |_=>none
def Q0 (z:List PL)(places:List (Nat×Nat))(vs:List DV):Option Vc:=
 match Pn (z.map .p) places vs with
 |some cs=>some (.pure (.agg cs))
 |none=>none
def VN (e:Nat)(z:List PL)(len:Nat)(places:List Nat)(n:Nat)(vs:List DV):Option Vc:=
 match Po z.length (List.replicate len (z.map .p)) places vs with
 |some cs=>some ⟨.one (.own n 0 0 len),[⟨false,0,z.length,cs,false,e⟩],[],[]⟩
 |none=>none
def Ti (agg:Bool)(sz:Nat)(cs:List DL):Option DV:=
 bif agg then(bif Nat.ble sz cs.length then some (.agg (cs.take sz))else none)
 else match cs with
  |c::_=>some (.one c)
  |[]=>none
def SF (h:HF)(id XX i:Nat):Option (List DL):=
 match h id with
 |some b=>bif Nat.beq b.XX XX&& !b.mp then b.ch[i]? else none
 |none=>none
def QX (agg:Bool)(sz:Nat)(h:HF):List DV->Option Vc
 |[.one (.p (.ref cs))]=>match Ti agg sz (cs.map .p)with
  |some v=>some (.pure v)
  |none=>none
 |[.one (.ptr id XX i off)]=>match SF h id XX i with
  |some c=>bif Nat.ble off c.length then
    match Ti agg sz (c.drop off)with
    |some v=>some ⟨v,[],[],[id]⟩
    |none=>none
   else none
  |none=>none
 |_=>none
def QO (base sz id XX i off:Nat)(b:Xz)(cs:List DL):Option Vc:=
 bif Nat.beq b.XX XX&& !b.mp&& !b.fz&&Nat.beq cs.length sz&&(Nat.ble base id||R3 cs)then
  match b.ch[i]? with
  |some c=>bif Nat.ble (off+sz) c.length then some ⟨.XZ [],[],[(id,{b with ch:=b.ch.set i (c.take off++cs++c.drop (off+sz))})],[id]⟩else none
  |none=>none
 else none
def RS (base sz:Nat)(h:HF):List DV->Option Vc
 |[.one (.ptr id XX i off),x]=>match h id with
  |some b=>match x.cells with
   |some cs=>QO base sz id XX i off b cs
   |none=>none
  |none=>none
 |_=>none
def fE (op:BinOp):List DV->Option Vc
 |[.one (.p (.int k a)),.one (.p (.int k' b))]=>match Wr op k k' a b with
  |some d=>some (.pure (.one d))
  |none=>none
 |_=>none
def Ng (neq:Bool):List DV->Option Vc
 |[.one (.p (.bool a)),.one (.p (.bool b))]=>some (.pure (.one (.p (.bool ((a==b)!=neq)))))
 |_=>none
def rh (neq:Bool)(x y:DL):Option Bool:=
 match x.isNil,y.isNil with
 |some true,some b=>some (b !=neq)
 |some false,some true=>some neq
 |_,_=>none
def VZ (neq:Bool):List DV->Option Vc
 |[.one x,.one y]=>match rh neq x y with
  |some b=>some (.pure (.one (.p (.bool b))))
  |none=>none
 |_=>none
def Ul (neq:Bool)(k:IntKind)(len:Nat):List DV->Option Vc
 |[.agg xs,.agg ys]=>bif Nat.beq xs.length len then
   match Wh k xs ys with
   |some b=>some (.pure (.one (.p (.bool (b !=neq)))))
   |none=>none
  else none
 |_=>none
def fD (op:UnOp):List DV->Option Vc
 |[.one x]=>match DQ op x with
  |some d=>some (.pure (.one d))
  |none=>none
 |_=>none
def Nf (k:IntKind):List DV->Option Vc
 |[.one (.p (.int _ n))]=>some (.pure (.one (.p (.int k (Xe k n)))))
 |_=>none
def V6 (off:Nat):List DV->Option Vc
 |[.one (.p (.ref cs))]=>bif Nat.ble off cs.length then some (.pure (.one (.p (.ref (cs.drop off)))))else none
 |[.one (.ptr id XX i o)]=>some (.pure (.one (.ptr id XX i (o+off))))
 |_=>none
def Vv (sz:Nat)(h:HF):List DV->Option Vc
 |[.one (.p (.Xp es)),.one (.p (.int _ (.ofNat i)))]=>match es[i]? with
  |some c=>bif Nat.beq c.length sz then some (.pure (.one (.p (.ref c))))else none
  |none=>none
 |[.one (.own id XX off len),.one (.p (.int _ (.ofNat i)))]=>match h id with
  |some b=>bif Nat.beq b.sz sz&&Nat.blt i len then some ⟨.one (.ptr id XX (off+i) 0),[],[],[id]⟩else none
  |none=>none
 |_=>none
def SN (len sz:Nat):List DV->Option Vc
 |[.one (.p (.ref cs)),.one (.p (.int _ (.ofNat i)))]=>
  bif Nat.blt i len&&Nat.ble (i*sz) cs.length then some (.pure (.one (.p (.ref (cs.drop (i*sz))))))else none
 |[.one (.ptr id XX j o),.one (.p (.int _ (.ofNat i)))]=>
  bif Nat.blt i len then some (.pure (.one (.ptr id XX j (o+i*sz))))else none
 |_=>none
def UP (len:Nat)(agg:Bool)(sz:Nat):List DV->Option Vc
 |[.agg cs,.one (.p (.int _ (.ofNat i)))]=>bif Nat.blt i len&&Nat.ble (i*sz) cs.length then
   match Ti agg sz (cs.drop (i*sz))with
   |some v=>some (.pure v)
   |none=>none
  else none
 |_=>none
def VR:List DV->Option Vc
 |[.one (.p (.str bs)),.one (.p (.int _ (.ofNat i)))]=>match bs[i]? with
  |some b=>some (.pure (.one (.p (.int .u8 b))))
  |none=>none
 |_=>none
def QY (agg:Bool)(sz off:Nat):List DV->Option Vc
 |[.agg cs]=>bif Nat.ble off cs.length then
   match Ti agg sz (cs.drop off)with
   |some v=>some (.pure v)
   |none=>none
  else none
 |_=>none
def RH (sz:Nat):Option (List PL)->Bool
 |some c=>Nat.beq c.length sz
 |none=>true
def WI (sz:Nat)(h:HF)(x:DL)(l:Nat)(u:Option Nat):Option (DL×List Nat):=
 match x with
 | .p (.Xp es)=>bif Nat.ble l (u.getD es.length)&&Nat.ble (u.getD es.length) es.length&&RH sz es[l]? then some (.p (.Xp ((es.take (u.getD es.length)).drop l)),[])else none
 | .p .XC=>bif Nat.beq l 0&&Nat.beq (u.getD 0) 0 then some (.p .XC,[])else none
 | .own id XX off len=>match h id with
   |some b=>bif Nat.ble l (u.getD len)&&(Nat.ble (u.getD len) len||(Nat.beq b.XX XX&& !b.mp&&Nat.beq off 0&&Nat.blt 0 sz&&Nat.ble (u.getD len) b.ch.length))&&Nat.beq b.sz sz then some (.own id XX (off+l) (u.getD len-l),[id])else none
   |none=>none
 |_=>none
def VL (lo hi:Bool):List DV->Option (DL×Nat×Option Nat)
 |[.one x]=>bif lo||hi then none else some (x,0,none)
 |[.one x,.one (.p (.int _ (.ofNat a)))]=>match lo,hi with
  |true,false=>some (x,a,none)
  |false,true=>some (x,0,some a)
  |_,_=>none
 |[.one x,.one (.p (.int _ (.ofNat a))),.one (.p (.int _ (.ofNat b)))]=>bif lo&&hi then some (x,a,some b)else none
 |_=>none
def RT (sz:Nat)(lo hi:Bool)(h:HF)(vs:List DV):Option Vc:=
 match VL lo hi vs with
 |some (x,l,u)=>match WI sz h x l u with
  |some (d,rd)=>some ⟨.one d,[],[],rd⟩
  |none=>none
 |none=>none
def Ql:List DV->Option Vc
 |[.one (.own _ _ _ len),.one (.p (.int _ (.ofNat a))),.one (.p (.int _ (.ofNat b))),.one (.p (.int _ (.ofNat c)))]=>
  bif Nat.ble a b&&Nat.ble b c&&Nat.ble c len then some (.pure (.one (.p .RB)))else none
 |_=>none
def Sk (n:Nat):List DV->Option Vc
 |[.XZ vs]=>match vs[n]? with
  |some v=>some (.pure v)
  |none=>none
 |_=>none
def Qn:List DV->Option Vc
 |[.one (.p .XC)]=>some (.pure (.one (.p (.int .i64 (.ofNat 0)))))
 |[.one (.p (.Xp es))]=>some (.pure (.one (.p (.int .i64 (.ofNat es.length)))))
 |[.one (.own _ _ _ len)]=>some (.pure (.one (.p (.int .i64 (.ofNat len)))))
 |_=>none
def Nd (n:Nat):List DV->Option Vc
 |[_]=>some (.pure (.one (.p (.int .i64 (.ofNat n)))))
 |_=>none
def WQ (e sz bytes n:Nat)(new:List (List DL))(ids:List Nat):Option Vc:=
 bif Nat.ble (new.length*bytes) lim&&Nat.ble new.length 9223372036854775807 then
  match new with
  |[]=>some ⟨.one (.p .XC),[],[],ids⟩
  |_=>some ⟨.one (.own n 0 0 new.length),[⟨false,0,sz,new,false,e⟩],[],ids⟩
 else none
def U4 (base e sz bytes id XX len:Nat)(b:Xz)(new:List (List DL))(ids:List Nat):Option Vc:=
 bif Nat.beq b.XX XX&& !b.mp&& !b.fz&&Nat.beq b.ch.length len&&Nat.beq b.sz sz&&Nat.beq b.ty e&&Nat.ble base id&&Nat.ble ((len+new.length)*bytes) lim&&Nat.ble (len+new.length) 9223372036854775807 then
  some ⟨.one (.own id (XX+1) 0 (len+new.length)),[],[(id,{b with XX:=XX+1,ch:=b.ch++new})],id::ids⟩
 else none
def S2 (base e sz id XX len:Nat)(b:Xz)(new:List (List DL))(ids:List Nat):Option Vc:=
 bif Nat.beq b.XX XX&& !b.mp&& !b.fz&&Nat.ble (len+new.length) b.ch.length&&Nat.beq b.sz sz&&Nat.beq b.ty e&&Nat.ble base id then
  some ⟨.one (.own id XX 0 (len+new.length)),[],[(id,{b with ch:=b.ch.take len++new++b.ch.drop (len+new.length)})],id::ids⟩
 else none
def W6 (base e sz bytes:Nat)(h:HF)(n:Nat):List DV->Option Vc
 |[.one x,.one y]=>match Wp h y with
  |some (new,ids)=>bif new.all (fun c=>Nat.beq c.length sz)then
    match x with
    | .p .XC=>WQ e sz bytes n new ids
    | .own id XX 0 len=>match h id with
      |some b=>bif Nat.beq b.ch.length len then U4 base e sz bytes id XX len b new ids else S2 base e sz id XX len b new ids
      |none=>none
    |_=>none
   else none
  |none=>none
 |_=>none
def V5 (e:Nat)(z:List PL)(bytes n:Nat):List DV->Option Vc
 |[.one (.p (.int _ (.ofNat l))),.one (.p (.int _ (.ofNat c)))]=>
  bif Nat.ble l c&&Nat.ble (bytes*c) lim&&Nat.ble c 9223372036854775807 then
   some ⟨.one (.own n 0 0 l),[⟨false,0,z.length,List.replicate l (z.map .p),false,e⟩],[],[]⟩
  else none
 |_=>none
def Rx (pickNew:Int->Int->Bool):List DV->Option Vc
 | .one (.p (.int k a))::vs=>match maxD pickNew k a vs with
   |some v=>some (.pure v)
   |none=>none
 |_=>none
def Ob (base sz id XX off len:Nat)(b:Xz)(new:List (List DL))(ids:List Nat):Option Vc:=
 bif Nat.beq b.XX XX&& !b.mp&& !b.fz&&Nat.beq b.sz sz&&Nat.ble (off+len) b.ch.length&&new.all (fun c=>Nat.beq c.length sz)&&(Nat.ble base id||new.all R3)then
  some ⟨.one (.p (.int .i64 (.ofNat (Nat.min len new.length)))),[],[(id,{b with ch:=b.ch.take off++new.take len++b.ch.drop (off+Nat.min len new.length)})],id::ids⟩
 else none
def QZ (base sz:Nat)(h:HF):List DV->Option Vc
 |[.one (.own id XX off len),.one y]=>match h id with
  |some b=>match Wp h y with
   |some (new,ids)=>Ob base sz id XX off len b new ids
   |none=>none
  |none=>none
 |_=>none
def RU (base:Nat)(z:List PL)(h:HF):List DV->Option Vc
 |[.one (.own id XX off len)]=>match h id with
  |some b=>bif Nat.beq b.XX XX&& !b.mp&& !b.fz&&Nat.beq b.sz z.length&&Nat.ble (off+len) b.ch.length&&Nat.ble base id then
    some ⟨.XZ [],[],[(id,{b with ch:=b.ch.take off++List.replicate len (z.map .p)++b.ch.drop (off+len)})],[id]⟩
   else none
  |none=>none
 |_=>none
def pS (agg:Bool):Nat:=bif agg then 1 else 0
def TA (Vx:Nat)(agg:Bool)(n:Nat):List DV->Option Vc
 |[]=>some ⟨.one (.mp n),[⟨false,0,Vx,[],true,pS agg⟩],[],[]⟩
 |_=>none
def rL (Vx:Nat)(agg:Bool)(z:List PL):Option (Nat×List DL)->Option DV
 |some (_,c)=>ux agg (c.drop Vx)
 |none=>ux agg (z.map .p)
def Nn (Vx:Nat)(k:IntKind)(agg:Bool)(z:List PL)(ok:Bool)(id:Nat)(b:Xz)(kc:List DL):Option Vc:=
 bif b.mp&&Nat.beq b.sz Vx&&Nat.beq kc.length Vx&&Nat.beq b.ty (pS agg)&&(Wh k kc kc).isSome then
  match TU k Vx kc b.ch 0 with
  |some r=>match rL Vx agg z r with
   |some v=>some ⟨bif ok then .XZ [v,.one (.p (.bool r.isSome))]else v,[],[],[id]⟩
   |none=>none
  |none=>none
 else none
def UO (Vx:Nat)(k:IntKind)(agg:Bool)(z:List PL)(ok:Bool)(h:HF):List DV->Option Vc
 |[.one (.mp id),.agg kc]=>match h id with
  |some b=>Nn Vx k agg z ok id b kc
  |none=>none
 |_=>none
def DV.isAgg:DV->Bool
 | .agg _=>true
 |_=>false
def eB (Vx:Nat)(k:IntKind)(id:Nat)(b:Xz)(kc xc:List DL):Option Vc:=
 match TU k Vx kc b.ch 0 with
 |some (some (i,_))=>some ⟨.XZ [],[],[(id,{b with ch:=b.ch.set i (kc++xc)})],[id]⟩
 |some none=>some ⟨.XZ [],[],[(id,{b with ch:=b.ch++[kc++xc]})],[id]⟩
 |none=>none
def Vf (Vx:Nat)(k:IntKind)(agg:Bool)(vsz:Nat)(h:HF):List DV->Option Vc
 |[.one (.mp id),.agg kc,x]=>match h id with
  |some b=>match x.cells with
   |some xc=>bif b.mp&& !b.fz&&Nat.beq b.sz Vx&&Nat.beq kc.length Vx&&Nat.beq xc.length vsz&&Nat.beq b.ty (pS agg)&&(x.isAgg==agg)&&(Wh k kc kc).isSome then
     eB Vx k id b kc xc
    else none
   |none=>none
  |none=>none
 |_=>none
def Tb (h:HF):List DV->Option Vc
 |[.one (.mp id)]=>match h id with
  |some b=>bif b.mp&& !Nat.beq b.ty 2 then some ⟨.one (.p (.int .i64 (.ofNat b.ch.length))),[],[],[id]⟩else none
  |none=>none
 |_=>none
def q7:DV->Option DL
 | .one l=>some l
 |_=>none
def UN (f:Nat)(vs:List DV):Option Vc:=
 match Xt q7 vs with
 |some caps=>some (.pure (.one (.fn f caps)))
 |none=>none
def Vk (E:Xa)(h:HF)(f:Nat)(vs:List DV):Option Vc:=
 match E.mode f with
 | .pure=>match Xt (XY h) vs with
   |some ps=>match E.pure f ps with
    |some r=>bif(vs.flatMap (S7 h)).isEmpty||r.scalar then some ⟨inj r,[],[],vs.flatMap (S7 h)⟩
     else some ⟨inj r,[],(vs.flatMap (S7 h)).filterMap (fun id=>(h id).map fun b=>(id,{b with fz:=true})),vs.flatMap (S7 h)⟩
    |none=>none
   |none=>none
 |_=>none
def SA (E:Xa)(h:HF):List DV->Option Vc
 | .one (.p (.fn f caps))::vs=>Vk E h (dH f) (rN f vs (caps.map fun l=>.one (.p l)))
 | .one (.fn f caps)::vs=>Vk E h (dH f) (rN f vs (caps.map .one))
 |_=>none
def X8 (E:Xa)(base:Nat)(op:aT)(vs:List DV)(h:HF)(n:Nat):Option Vc:=
 match op with
 | .move=>Nc vs
 | .nilCheck=>Sj vs
 | .pick=>Nb vs
 | .box t=>aj t n vs
 | .alloc t z=>RV t z n vs
 | .build z places=>Q0 z places vs
 | .buildSlice e z len places=>VN e z len places n vs
 | .load agg sz=>QX agg sz h vs
 | .store sz=>RS base sz h vs
 | .bin op=>fE op vs
 | .wK neq=>Ng neq vs
 | .cu neq=>VZ neq vs
 | .NC neq k len=>Ul neq k len vs
 | .un op=>fD op vs
 | .conv k=>Nf k vs
 | .fieldAddr off=>V6 off vs
 | .Q7 sz=>Vv sz h vs
 | .fY len sz=>SN len sz vs
 | .Th=>VR vs
 | .fX len agg sz=>UP len agg sz vs
 | .field agg sz off=>QY agg sz off vs
 | .slice sz lo hi=>RT sz lo hi h vs
 | .extract m=>Sk m vs
 | .len=>Qn vs
 | .yZ m=>Nd m vs
 | .append e sz bytes=>W6 base e sz bytes h n vs
 | .makeSlice e z bytes=>V5 e z bytes n vs
 | .max=>Rx Tf vs
 | .min=>Rx (fun a b=>Tf b a) vs
 | .copy sz=>QZ base sz h vs
 | .makeMap Vx agg=>TA Vx agg n vs
 | .lookup Vx k agg z ok=>UO Vx k agg z ok h vs
 | .mapUpdate Vx k agg vsz=>Vf Vx k agg vsz h vs
 | .PY=>Tb h vs
 | .makeFunc f=>UN f vs
 | .call f=>Vk E h f vs
 | .TF=>SA E h vs
 | .clear z=>RU base z h vs
 | .slice3=>Ql vs
structure St where
 T:List (Nat×DV)
 H:List Xz
def Xh:List (Nat×DV)->Nat->Option DV
 |[],_=>none
 |(t,v)::T,n=>bif Nat.beq t n then some v else Xh T n
def W8.eval (T:List (Nat×DV)):W8->Option DV
 | .t n=>Xh T n
 | .c v=>some (inj v)
def AY {α β:Type}:List α->Nat->α->(List α->β)->β
 |[],_,_,k=>k []
 |_::xs,0,v,k=>k (v::xs)
 |x::xs,n+1,v,k=>AY xs n v fun ys=>k (x::ys)
def Cg {α β:Type}:List α->List α->(List α->β)->β
 |[],ys,k=>k ys
 |x::xs,ys,k=>Cg xs ys fun zs=>k (x::zs)
def nZ {β:Type}(n:Nat)(k:Nat->β):β:=
 match n with
 |0=>k 0
 |m+1=>k (m+1)
def Dz {β:Type}(n:Int)(k:Int->β):β:=
 match n with
 | .ofNat m=>nZ m fun m=>k (.ofNat m)
 | .negSucc m=>nZ m fun m=>k (.negSucc m)
def tP {β:Type}(l:DL)(k:DL->β):β:=
 match l with
 | .p (.int i n)=>Dz n fun n=>k (.p (.int i n))
 | .p (.bool b)=>match b with
   |true=>k (.p (.bool true))
   |false=>k (.p (.bool false))
 | .own id XX off len=>nZ XX fun XX=>nZ off fun off=>nZ len fun len=>k (.own id XX off len)
 | .ptr id XX i off=>nZ i fun i=>nZ off fun off=>k (.ptr id XX i off)
 |l=>k l
def dV {β:Type}:List DL->(List DL->β)->β
 |[],k=>k []
 |l::ls,k=>tP l fun l=>dV ls fun ls=>k (l::ls)
def AK {β:Type}(v:DV)(k:DV->β):β:=
 match v with
 | .one l=>tP l fun l=>k (.one l)
 | .agg cs=>dV cs fun cs=>k (.agg cs)
 | .XZ vs=>k (.XZ vs)
def VC (H:List Xz):List (Nat×Xz)->List Xz
 |[]=>H
 |(id,b)::ws=>VC (H.set id b) ws
def OS (T:List (Nat×DV))(dst:Option Nat)(v:DV):List (Nat×DV):=
 match dst with
 |some d=>(d,v)::T
 |none=>T
def Bj {β:Type}(T:List (Nat×DV))(dst:Option Nat)(v:DV)(k:List (Nat×DV)->β):β:=
 match dst with
 |some d=>k ((d,v)::T)
 |none=>k T
def Fj {β:Type}(H:List Xz):List (Nat×Xz)->(List Xz->β)->β
 |[],k=>k H
 |(id,b)::ws,k=>AY H id b fun H=>Fj H ws k
def F0 {β:Type}(H al:List Xz)(k:List Xz->β):β:=
 match al with
 |[]=>k H
 |_=>Cg H al k
def Om (H al:List Xz):List Xz:=
 match al with
 |[]=>H
 |_=>H++al
structure RO where
 i:Nat
 rd:List Nat
 wr:List Nat
 after:List Nat
 lo:Nat
 hi:Nat
def UC (T:List (Nat×DV)):Option (Nat×Bool)->Option Bool
 |none=>some true
 |some (t,want)=>
  match Xh T t with
  |some (.one (.p (.bool b)))=>some (b==want)
  |some (.XZ [])=>some false
  |_=>none
def Xn (H:List Xz):HF:=fun id=>H[id]?
def W7 (E:Xa)(dst:Option Nat)(f:Nat)(vs:List DV)(s:St):Option (St×List Nat×List Nat):=
 match E.mode f with
 | .heap=>match E.heap f vs s.H with
   |some (v,H)=>Bj s.T dst v fun T=>some (⟨T,H⟩,[],[])
   |none=>none
 | .pure=>none
def Ue (E:Xa)(f:Nat):Bool:=
 match E.mode f with
 | .pure=>false
 |_=>true
def Xk (E:Xa)(op:aT):Bool:=
 match op with
 | .call f=>Ue E f
 |_=>false
def XK (E:Xa)(op:aT)(vs:List DV):Bool:=
 match op with
 | .call f=>Ue E f
 | .TF=>match vs with
   | .one (.p (.fn f _))::_=>Ue E (dH f)
   | .one (.fn f _)::_=>Ue E (dH f)
   |_=>false
 |_=>false
def Qt (E:Xa)(o:Xw)(vs:List DV)(s:St):Option (St×List Nat×List Nat):=
 match o.op with
 | .call f=>W7 E o.dst f vs s
 | .TF=>match vs with
   | .one (.p (.fn f caps))::vs=>W7 E o.dst (dH f) (rN f vs (caps.map fun l=>.one (.p l))) s
   | .one (.fn f caps)::vs=>W7 E o.dst (dH f) (rN f vs (caps.map .one)) s
   |_=>none
 |_=>none
def Qv (o:Xw)(s:St)(r:Vc):Option (St×List Nat×List Nat):=
 AK r.val fun v=>Bj s.T o.dst v fun T=>Fj s.H r.wr fun H=>F0 H r.al fun H=>some (⟨T,H⟩,r.rd,r.wr.map (·.1))
def W3 (E:Xa)(base:Nat)(heap:Bool)(o:Xw)(s:St):Option (St×List Nat×List Nat):=
 match UC s.T o.guard with
 |none=>none
 |some false=>Bj s.T o.dst (.XZ []) fun T=>some (⟨T,s.H⟩,[],[])
 |some true=>
  match Xt (W8.eval s.T) o.args with
  |none=>none
  |some vs=>bif heap&&XK E o.op vs then Qt E o vs s else
   match X8 E base o.op vs (Xn s.H) s.H.length with
   |some r=>Qv o s r
   |none=>none
def V9 (E:Xa)(base:Nat):List Xw->St->Option St
 |[],s=>some s
 |o::os,s=>
  match W3 E base true o s with
  |some (s,_,_)=>V9 E base os s
  |none=>none
def TZ (l:List Nat):Nat->Bool
 |0=>true
 |i+1=>l.contains i&&TZ l i
def Uz (E:Xa)(base:Nat):Nat->List Xw->St->Option (St×List RO)
 |_,[],s=>some (s,[])
 |i,o::os,s=>
  bif Xk E o.op&& !(os.isEmpty&&TZ o.after i)then none else
  match W3 E base (Xk E o.op) o s with
  |some (s1,rd,wr)=>
   match Uz E base (i+1) os s1 with
   |some (s2,fs)=>some (s2,⟨i,rd,wr,o.after,s.H.length,s1.H.length⟩::fs)
   |none=>none
  |none=>none
def P3 (f g:RO):Bool:=
 Nat.beq f.i g.i||
  (f.wr.all (fun id=> !(g.wr.contains id)&&(!(g.rd.contains id)||f.after.contains g.i))&&
   g.rd.all (fun id=> !(Nat.ble f.lo id&&Nat.blt id f.hi)||g.after.contains f.i)&&
   g.wr.all (fun id=> !(Nat.ble f.lo id&&Nat.blt id f.hi)||g.after.contains f.i))
def Rh (fs:List RO):Bool:=
 fs.all fun f=>(f.wr.isEmpty&&Nat.beq f.lo f.hi)||fs.all fun g=>P3 f g
def UA (E:Xa)(base:Nat)(ops:List Xw)(s:St):Option St:=
 match Uz E base 0 ops s with
 |some (s,fs)=>bif Rh fs then some s else none
 |none=>none
def TK:Nat->List Xw->Bool
 |_,[]=>true
 |i,o::os=>TZ o.after i&&TK (i+1) os
def Pb (E:Xa)(base:Nat)(pre suf:List Xw)(s:St):Option St:=
 match UA E base pre s with
 |some s=>V9 E base suf s
 |none=>none
inductive Ex where
 |normal
 |exit (id:Nat)
 |ret
def VH (T:List (Nat×DV)):List Nat->List (Nat×DV)
 |[]=>[]
 |k::ks=>match Xh T k with
  |some v=>(k,v)::VH T ks
  |none=>VH T ks
def oE {β:Type}(T:List (Nat×DV)):List Nat->(List (Nat×DV)->β)->β
 |[],k=>k []
 |n::ns,k=>match Xh T n with
  |some v=>oE T ns fun U=>k ((n,v)::U)
  |none=>oE T ns k
def PX (body:St->Option (Ex×St)):Nat->St->Option (Ex×St)
 |0,_=>none
 |k+1,s=>
  match body s with
  |some (.normal,s)=>PX body k s
  |r=>r
def Qg:List Nat->List PV->List (Nat×DV)->Option (List (Nat×DV))
 |[],[],T=>some T
 |v::vs,x::xs,T=>Qg vs xs ((v,inj x)::T)
 |_,_,_=>none
def U1 (T:List (Nat×DV))(body:St->Option (Ex×St))(vars:List Nat):List (List PV)->List Xz->Option (Ex×St)
 |[],H=>some (.normal,⟨T,H⟩)
 |xs::rest,H=>
  match Qg vars xs T with
  |some T1=>
   match body ⟨T1,H⟩with
   |some (.normal,s)=>U1 T body vars rest s.H
   |some (.exit id,s)=>some (.exit id,⟨T,s.H⟩)
   |some (.ret,s)=>some (.ret,⟨T,s.H⟩)
   |none=>none
  |none=>none
def XH.flat:XH->Bool
 | .seq a b=>a.flat&&b.flat
 | .cond _ a b=>a.flat&&b.flat
 | .block _ c=>c.flat
 | .loop c=>c.flat
 | .VW _ c=>c.flat
 | .scope _=>false
 | .Pt _ _ _ _=>false
 |_=>true
def TP (pre body:St->Option (Ex×St))(s:St):Option (Ex×St):=
 match pre s with
 |some (.normal,s)=>body s
 |_=>none
def XG (E:Xa)(K base:Nat):XH->St->Option (Ex×St)
 | .skip,s=>some (.normal,s)
 | .region false ops,s=>
   match V9 E base ops s with
   |some s=>some (.normal,s)
   |none=>none
 | .region true ops,s=>
   match UA E base ops s with
   |some s=>some (.normal,s)
   |none=>none
 | .Rb pre suf,s=>
   match Pb E base pre suf s with
   |some s=>some (.normal,s)
   |none=>none
 | .seq a b,s=>
   match XG E K base a s with
   |some (.normal,s)=>XG E K base b s
   |r=>r
 | .cond c a b,s=>
   match c.eval s.T with
   |some (.one (.p (.bool true)))=>XG E K base a s
   |some (.one (.p (.bool false)))=>XG E K base b s
   |_=>none
 | .block id c,s=>
   match XG E K base c s with
   |some (.exit j,s)=>bif j==id then some (.normal,s)else some (.exit j,s)
   |r=>r
 | .loop c,s=>PX (fun s=>XG E K base c s) K s
 | .VW ks c,s=>oE s.T ks fun T=>XG E K base c ⟨T,s.H⟩
 | .scope c,s=>XG E K base c s
 | .exit id,s=>some (.exit id,s)
 | .ret,s=>some (.ret,s)
 | .Pt f vars pre body,s=>
   match f.eval s.T with
   |some (.one (.p (.fn f caps)))=>
    match E.iter f caps with
    |some xss=>bif pre.flat&&body.flat&&Nat.blt f NA then U1 s.T (TP (fun s=>XG E K base pre s) (fun s=>XG E K base body s)) vars xss s.H else none
    |none=>none
   |_=>none
def WA (s:St):Nat×Option (Bool×Nat)->Option DV
 |(t,none)=>Xh s.T t
 |(t,some (agg,sz))=>
  match Xh s.T t with
  |some (.one (.ptr id XX i off))=>
   match s.H[id]? with
   |some b=>bif Nat.beq b.XX XX&& !b.mp then
     match b.ch[i]? with
     |some c=>
      bif agg then(bif Nat.ble (off+sz) c.length then some (.agg ((c.drop off).take sz))else none)
      else match c.drop off with
       |d::_=>some (.one d)
       |[]=>none
     |none=>none
    else none
   |none=>none
  |_=>none
def uy {β:Type}:List DV->Nat->(List (Nat×DV)->β)->β
 |[],_,k=>k []
 |v::vs,i,k=>uy vs (i+1) fun T=>k ((i,v)::T)
def Sp (E:Xa)(K:Nat)(xf:Vb)(args:List DV)(H:List Xz):Option (List DV×St):=
 match(bif Nat.ble args.length xf.ntmps then uy args 0 fun T=>XG E K 0 xf.body ⟨T,H⟩else none)with
 |some (.normal,s)|some (.ret,s)=>
  match Xt (WA s) xf.results with
  |some rs=>some (rs,s)
  |none=>none
 |_=>none
def cM:List PV->PV
 |[v]=>v
 |vs=>.XZ vs
def Ug (E:Xa)(K:Nat)(xf:Vb)(args:List PV):Option PV:=
 match Sp E K xf (args.map inj) []with
 |some (rs,s)=>
  match Xt (XY (Xn s.H)) rs with
  |some ps=>some (cM ps)
  |none=>none
 |none=>none
def tC:List DV->DV
 |[v]=>v
 |vs=>.XZ vs
def DV.plain:DV->Bool
 | .XZ _=>false
 |_=>true
def Uh (E:Xa)(K:Nat)(xf:Vb)(args:List DV)(H:List Xz):Option (DV×List Xz):=
 match Sp E K xf args H with
 |some (rs,s)=>bif rs.all DV.plain then some (tC rs,s.H)else none
 |none=>none
def lift (X:Nat->Option Vb)(K:Nat)(E:Xa):Xa:=
 ⟨E.mode,
  fun f args=>match X f with
   |some xf=>Ug E K xf args
   |none=>E.pure f args,
  fun f args H=>match X f with
   |some xf=>Uh E K xf args H
   |none=>E.heap f args H,
  E.iter⟩
def ev (E0:Xa)(X:Nat->Option Vb)(K:Nat):Nat->Xa
 |0=>E0
 |n+1=>lift X K (ev E0 X K n)
def iC:Value->Option PL
 | .bool b=>some (.bool b)
 | .int k n=>some (.int k n)
 | .slice none 0 0=>some .XC
 | .string s=>some (.str (s.data.toList.map UInt8.toNat))
 | .nilFunc=>some .RB
 | .nilIface=>some .RB
 | .pointer none=>some .RB
 |_=>none
def BE:Value->Option PV
 | .agg cs=>match Xt iC cs.toList with
   |some ls=>some (.agg ls)
   |none=>none
 | .tuple vs=>if vs.isEmpty then some (.XZ [])else none
 |v=>match iC v with
  |some l=>some (.one l)
  |none=>none
def zeroOf (P:Program)(t:TypeId):Option (List PL):=
 match P.info? t with
 |some i=>match i.zero with
  |some z=>match Xt iC z.cells.toList with
   |some ls=>if ls.length==i.size then some ls else none
   |none=>none
  |none=>none
 |none=>none
def Wn (P:Program)(t:TypeId):Option Nat:=(P.info? t).map (·.size)
def aK (P:Program)(t:TypeId):Option Nat:=(P.info? t).map (·.bytes)
def cw (P:Program)(t:TypeId):Option Bool:=
 match P.underlying t with
 |some (.struct _)=>some true
 |some (.array _ _)=>some true
 |some _=>some false
 |none=>none
def Qc (P:Program)(t:TypeId):Option Bool:=
 match P.info? t with
 |some i=>match i.zero with
  |some (.agg _)=>some true
  |some v=>if v.oneCell' then some false else none
  |none=>none
 |none=>none
def Xy:Operand->Option W8
 | .tmp t=>some (.t t)
 | .const v=>match BE v with
   |some l=>some (.c l)
   |none=>none
 | .func f=>if Nat.blt f NA then some (.c (.one (.fn f [])))else none
 | .global _=>none
def QA (a:Array Operand):Option (List W8):=Xt Xy a.toList
def TG:Option Operand->Option (List W8)
 |none=>some []
 |some x=>match Xy x with
  |some y=>some [y]
  |none=>none
def fS (P:Program)(t:TypeId):Option (Nat×IntKind):=
 match P.underlying t with
 |some (.array n e)=>match P.underlying e,Wn P e with
  |some (.int k),some 1=>some (n,k)
  |_,_=>none
 |_=>none
def XO (P:Program)(b:Builtin)(ts:Array TypeId):Option aT:=
 match b with
 | .len=>match ts[0]? with
   |some t=>match P.underlying t with
    |some (.slice _)=>some .len
    |some (.array n _)=>some (.yZ n)
    |some (.map _ _)=>some .PY
    |_=>none
   |none=>none
 | .append=>match ts.toList with
   |[t,u]=>if t==u then
      match P.underlying t with
      |some (.slice e)=>match zeroOf P e,aK P e with
       |some z,some b=>if 0<z.length then some (.append e z.length b)else none
       |_,_=>none
      |_=>none
    else none
   |_=>none
 | .copy=>match ts.toList with
   |[t,u]=>if t==u then
      match P.underlying t with
      |some (.slice e)=>match Wn P e with
       |some (n+1)=>some (.copy (n+1))
       |_=>none
      |_=>none
    else none
   |_=>none
 | .clear=>match ts.toList with
   |[t]=>match P.underlying t with
    |some (.slice e)=>match zeroOf P e with
     |some z=>if 0<z.length then some (.clear z)else none
     |none=>none
    |_=>none
   |_=>none
 | .max=>some .max
 | .min=>some .min
 |_=>none
def XR (P:Program)(o:Op):Option (aT×List W8):=
 match o with
 | .move x| .assign x=>match Xy x with
   |some x=>some (.move,[x])
   |none=>none
 | .nilCheck x=>match Xy x with
   |some x=>some (.nilCheck,[x])
   |none=>none
 | .pick c a b=>match Xy c,Xy a,Xy b with
   |some c,some a,some b=>some (.pick,[c,a,b])
   |_,_,_=>none
 | .box t x=>match Xy x with
   |some x=>some (.box t,[x])
   |none=>none
 | .alloc t=>match zeroOf P t with
   |some z=>some (.alloc t z,[])
   |none=>none
 | .build t parts=>
   match zeroOf P t,Xt (fun x=>Xy x.2) parts.toList with
   |some z,some xs=>
    match P.underlying t with
    |some (.struct fs)=>
     match Xt (fun f:Field=>match Wn P f.type with |some s=>some (f.offset,s)|none=>none) fs.toList with
     |some places=>match Xt (fun x:Nat×Operand=>places[x.1]?) parts.toList with
      |some pl=>some (.build z pl,xs)
      |none=>none
     |none=>none
    |some (.array _ e)=>match Wn P e with
     |some s=>some (.build z (parts.toList.map fun x=>(x.1*s,s)),xs)
     |none=>none
    |_=>none
   |_,_=>none
 | .buildSlice t len parts=>
   match P.underlying t with
   |some (.slice e)=>
    match zeroOf P e,Xt (fun x=>Xy x.2) parts.toList with
    |some z,some xs=>if 0<z.length&&Nat.ble (len*z.length) 16777216 then some (.buildSlice e z len (parts.toList.map (·.1)),xs)else none
    |_,_=>none
   |_=>none
 | .load t x=>match cw P t,Wn P t,Xy x with
   |some a,some s,some x=>some (.load a s,[x])
   |_,_,_=>none
 | .store t a x=>match Wn P t,Xy a,Xy x with
   |some s,some a,some x=>some (.store s,[a,x])
   |_,_,_=>none
 | .binOp op t x y _=>
   match Xy x,Xy y with
   |some x,some y=>
    match P.underlying t with
    |some (.int _)=>some (.bin op,[x,y])
    |some .bool=>match op with
     | .eql=>some (.wK false,[x,y])
     | .neq=>some (.wK true,[x,y])
     |_=>none
    |some (.slice _)=>match op with
     | .eql=>some (.cu false,[x,y])
     | .neq=>some (.cu true,[x,y])
     |_=>none
    |some (.array n e)=>match P.underlying e,Wn P e,P.eqGuardType P.depth t with
     |some (.int k),some 1,false=>match op with
      | .eql=>some (.NC false k n,[x,y])
      | .neq=>some (.NC true k n,[x,y])
      |_=>none
     |_,_,_=>none
    |_=>none
   |_,_=>none
 | .unOp op _ x=>match Xy x with
   |some x=>some (.un op,[x])
   |none=>none
 | .convert s d x=>match P.underlying s,P.underlying d,Xy x with
   |some _,some (.int k),some x=>some (.conv k,[x])
   |_,_,_=>none
 | .makeFunc (.func f) first caps=>if first.isEmpty then
   match QA caps with
   |some cs=>if Nat.blt f NA then some (.makeFunc f,cs)else none
   |none=>none
   else if caps.isEmpty then
    match QA first with
    |some cs=>some (.makeFunc (f+NA),cs)
    |none=>none
   else none
 | .makeSlice t l c=>
   match P.underlying t with
   |some (.slice e)=>match zeroOf P e,aK P e,Xy l,Xy c with
    |some z,some b,some l,some c=>if 0<z.length then some (.makeSlice e z b,[l,c])else none
    |_,_,_,_=>none
   |_=>none
 | .slice t x lo hi none=>
   match P.underlying t with
   |some (.slice e)=>match Xy x,TG lo,TG hi,Wn P e with
    |some x,some l,some h,some s=>some (.slice s lo.isSome hi.isSome,x::(l++h))
    |_,_,_,_=>none
   |_=>none
 | .slice t x (some lo) (some hi) (some mx)=>
   match P.underlying t with
   |some (.slice e)=>match Xy x,Xy lo,Xy hi,Xy mx,Wn P e with
    |some x,some l,some h,some m,some _=>some (.slice3,[x,l,h,m])
    |_,_,_,_,_=>none
   |_=>none
 | .fieldAddr s x f=>match P.underlying s with
   |some (.struct fs)=>match fs[f]? with
    |some fl=>match Wn P fl.type,Xy x with
     |some (_+1),some x=>some (.fieldAddr fl.offset,[x])
     |_,_=>none
    |none=>none
   |_=>none
 | .field s x f=>match P.underlying s with
   |some (.struct fs)=>match fs[f]? with
    |some fl=>match cw P fl.type,Wn P fl.type,Xy x with
     |some a,some sz,some x=>some (.field a sz fl.offset,[x])
     |_,_,_=>none
    |none=>none
   |_=>none
 | .indexAddr t x i=>match P.underlying t,Xy x,Xy i with
   |some (.slice e),some x,some i=>match Wn P e with
    |some s=>some (.Q7 s,[x,i])
    |none=>none
   |some (.array n e),some x,some i=>match Wn P e with
    |some s=>some (.fY n s,[x,i])
    |none=>none
   |_,_,_=>none
 | .index t x i=>match P.underlying t,Xy x,Xy i with
   |some .string,some x,some i=>some (.Th,[x,i])
   |some (.array n e),some x,some i=>match cw P e,Wn P e with
    |some a,some s=>some (.fX n a s,[x,i])
    |_,_=>none
   |_,_,_=>none
 | .makeMap t none=>match P.underlying t with
   |some (.map k e)=>match fS P k,Qc P e with
    |some (n,_),some a=>some (.makeMap n a,[])
    |_,_=>none
   |_=>none
 | .lookup t x i ok=>match P.underlying t with
   |some (.map k e)=>match fS P k,Qc P e,zeroOf P e,Xy x,Xy i with
    |some (n,kk),some a,some z,some x,some i=>some (.lookup n kk a z ok,[x,i])
    |_,_,_,_,_=>none
   |_=>none
 | .mapUpdate t m k x=>match P.underlying t with
   |some (.map kt e)=>match fS P kt,Qc P e,Wn P e,Xy m,Xy k,Xy x with
    |some (n,kk),some a,some s,some m,some k,some x=>some (.mapUpdate n kk a s,[m,k,x])
    |_,_,_,_,_,_=>none
   |_=>none
 | .extract x n=>match Xy x with
   |some x=>some (.extract n,[x])
   |none=>none
 | .call c=>match QA c.args with
   |some xs=>
    match c.callee with
    | .builtin b=>match XO P b c.argTypes with
      |some op=>some (op,xs)
      |none=>none
    | .value (.func f)=>some (.call f,xs)
    | .value x=>match Xy x with
      |some x=>some (.TF,x::xs)
      |none=>none
    | .invoke _ _=>none
   |none=>none
 |_=>none
def Pp (nt:Nat):Option Nat->Bool
 |none=>true
 |some d=>Nat.blt d nt
def Ss (ops:List Oper):Option (Nat×Bool)->Option (Option (Nat×Bool))
 |none=>some none
 |some (j,want)=>match ops[j]? with
  |some g=>match g.dst with
   |some d=>some (some (d,want))
   |none=>none
  |none=>none
def Uo (P:Program)(nt:Nat)(ops:List Oper)(o:Oper):Option Xw:=
 match XR P o.op with
 |some (op,args)=>match Ss ops o.guard with
  |some g=>if Pp nt o.dst then some ⟨o.dst,op,args,g,(o.after.toList.filter (Region.binds .any)).map (·.on)⟩else none
  |none=>none
 |none=>none
def W8.tmp:W8->List Nat
 | .t n=>[n]
 | .c _=>[]
def Xw.tmps (o:Xw):List Nat:=
 o.args.flatMap W8.tmp++(match o.guard with |some (t,_)=>[t]|none=>[])
def gk (ops:List Xw):Bool:=
 ops.zipIdx.all fun(o,i)=>
  o.after.all (fun j=>Nat.blt j i)&&
  ops.zipIdx.all fun(q,j)=>i==j||
   match q.dst with
   |none=>true
   |some d=>(match o.dst with |some e=>d !=e|none=>true)&&
    (!(o.tmps.contains d)||o.after.contains j||q.after.contains i)
def eo (done:List Xw)(j:Nat):List Nat:=
 match done[j]? with
 |some p=>p.after
 |none=>[]
def dd:List Nat->List Nat
 |[]=>[]
 |x::xs=>bif xs.contains x then dd xs else x::dd xs
def WG:List Xw->List Xw->List Xw
 |done,[]=>done
 |done,o::os=>WG (done++[{o with after:=dd (o.after++o.after.flatMap (eo done))}]) os
theorem rl (x:Nat):∀l:List Nat,x∈dd l↔x∈l
 |[]=>by simp[dd]
 |y::l=>by
  have a:=rl x l;simp only[dd];cases b:l.contains y with
  |true=>
   have c:y∈l:=by simpa using b
   simp only[cond_true,a,Zj];exact⟨.inr,fun h=>h.elim (fun e=>e▸c) id⟩
  |false=>simp only[cond_false,Zj,a]
def Xw.bare (o:Xw):Xw:={o with after:=[]}
def XN (P:Program)(nt:Nat):Code->Option XH
 | .skip=>some .skip
 | .region _ ops draws=>
   match Xt (Uo P nt ops.toList) ops.toList with
   |some os=>if draws then(if gk (WG [] os)then some (.region true (WG [] os))else none)else some (.region false (os.map Xw.bare))
   |none=>none
 | .seq a b=>match XN P nt a,XN P nt b with
   |some a,some b=>some (.seq a b)
   |_,_=>none
 | .cond c a b=>match Xy c,XN P nt a,XN P nt b with
   |some c,some a,some b=>some (.cond c a b)
   |_,_,_=>none
 | .block id c=>match XN P nt c with
   |some c=>some (.block id c)
   |none=>none
 | .loop c=>match XN P nt c with
   |some c=>some (.loop c)
   |none=>none
 | .exit id=>some (.exit id)
 | .ret=>some .ret
 | .scope c=>match XN P nt c with
   |some c=>some (.scope c)
   |none=>none
 | .label _=>some .skip
 | .rangeFunc f vars pre body=>match Xy f,XN P nt pre,XN P nt body with
   |some f,some pre,some body=>if vars.toList.all (fun v=>Nat.blt v nt)then some (.Pt f vars.toList pre body)else none
   |_,_,_=>none
 |_=>none
def Rj (P:Program):ResultVar->Option (Nat×Option (Bool×Nat))
 | .tmp t=>some (t,none)
 | .cell a t=>match cw P t,Wn P t with
   |some g,some s=>some (a,some (g,s))
   |_,_=>none
def o9 (P:Program)(fn:Func):Option Vb:=
 if fn.name == "runtime.NumGoroutine" then none else
 match fn.body with
 |some c=>match XN P fn.ntmps c,Xt (Rj P) fn.results.toList with
  |some c,some rs=>some ⟨fn.ntmps,rs,c⟩
  |_,_=>none
 |none=>none
def XH.erase:XH->XH
 | .seq a b=>.seq a.erase b.erase
 | .cond c a b=>.cond c a.erase b.erase
 | .block id c=>.block id c.erase
 | .loop c=>.loop c.erase
 | .VW _ c=>c.erase
 | .scope c=>.scope c.erase
 | .Pt f vs a b=>.Pt f vs a.erase b.erase
 | .Rb pre suf=>bif TK pre.length suf then .region true (pre++suf)else .VW [] .skip
 |c=>c
end Go.Ev
