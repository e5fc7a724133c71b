/- Definitions: abstract values, a small instruction set with all sizes resolved, and a deterministic interpreter over abstract values. Nothing is proved here. -/
import Derived.Test.YtidginchkjhobaaGreatZ
import Derived.WalkKit
namespace Go.Ev
inductive PL where
 |bool (b:Bool)
 |int (k:IntKind) (n:Int)
 |Xq
 |Xn (es:List (List PL))
 |ref (cs:List PL)
 |fn (f:Nat) (caps:List PL)
 |str (bs:P')
 |Qo
inductive DL where
 |p (l:PL)
 |own (id XM off len:Nat)
 |ptr (id XM i off:Nat)
 |fn (f:Nat) (caps:List DL)
 |mp (id:Nat)
inductive PV where
 |one (l:PL)
 |agg (cs:List PL)
 |X9 (vs:List PV)
inductive DV where
 |one (l:DL)
 |agg (cs:List DL)
 |X9 (vs:List DV)
structure Xx where
 fz:Bool
 XM:Nat
 sz:Nat
 ch:List (List DL)
 mp:Bool
 ty:Nat
inductive Vs where
 |t (n:Nat)
 |c (v:PV)
inductive cH where
 |move
 |nilCheck
 |pick
 |box (t:Nat)
 |alloc (t:Nat) (z:List PL)
 |build (z:List PL) (places:List (Nat×Nat))
 |buildSlice (e:Nat) (z:List PL) (len:Nat) (places:P')
 |load (agg:Bool) (sz:Nat)
 |store (sz:Nat)
 |bin (op:BinOp)
 |Ar (neq:Bool)
 |ei (neq:Bool)
 |aO (neq:Bool) (k:IntKind) (len:Nat)
 |un (op:UnOp)
 |conv (k:IntKind)
 |fieldAddr (off:Nat)
 |P1 (sz:Nat)
 |jo (len sz:Nat)
 |TI
 |jn (len:Nat) (agg:Bool) (sz:Nat)
 |field (agg:Bool) (sz off:Nat)
 |slice (sz:Nat) (lo hi:Bool)
 |extract (n:Nat)
 |len
 |Cn (n:Nat)
 |append (e sz bytes:Nat)
 |makeSlice (e:Nat) (z:List PL) (bytes:Nat)
 |max
 |min
 |copy (sz:Nat)
 |makeMap (VW:Nat) (agg:Bool)
 |lookup (VW:Nat) (k:IntKind) (agg:Bool) (z:List PL) (ok:Bool)
 |mapUpdate (VW:Nat) (k:IntKind) (agg:Bool) (vsz:Nat)
 |OP
 |makeFunc (f:Nat)
 |call (f:Nat)
 |Sd
 |clear (z:List PL)
 |slice3
structure Xy where
 dst:Option Nat
 op:cH
 args:List Vs
 guard:Option (Nat×Bool)
 after:P'
inductive XH where
 |skip
 |region (draws:Bool) (ops:List Xy)
 |RP (pre suf:List Xy)
 |seq (a b:XH)
 |cond (c:Vs) (a b:XH)
 |block (id:Nat) (c:XH)
 |loop (c:XH)
 |VM (ks:P') (c:XH)
 |scope (c:XH)
 |exit (id:Nat)
 |ret
 |Og (f:Vs) (vars:P') (pre body:XH)
def Q {α:Type}(a:α){b:α}(_h:a=b:=by conv=>lhs;reduce):α:=b
abbrev cI (n:Nat):PL:=.int .i64 (.ofNat n)
abbrev cN (n:Nat):PL:=.int .i64 (.negSucc n)
abbrev cW (n:Nat):PL:=.int .u32 (.ofNat n)
abbrev cQ (n:Nat):PL:=.int .u64 (.ofNat n)
abbrev cB (n:Nat):PL:=.int .u8 (.ofNat n)
abbrev cC (n:Nat):Vs:=.c (.one (.int .i64 (.ofNat n)))
abbrev cF:Vs:=.c (.one (.bool false))
abbrev cT:Vs:=.c (.one (.bool true))
abbrev oP (d:Nat)(op:cH)(a:List Vs):Xy:=⟨some d,op,a,none,[]⟩
abbrev oA (d:Nat)(op:cH)(a:List Vs)(af:P'):Xy:=⟨some d,op,a,none,af⟩
abbrev oG (d:Nat)(op:cH)(a:List Vs)(g:Nat)(b:Bool)(af:P'):Xy:=⟨some d,op,a,some (g,b),af⟩
abbrev oN (op:cH)(a:List Vs)(af:P'):Xy:=⟨none,op,a,none,af⟩
abbrev mV (d t:Nat):Xy:=⟨some d,.move,[.t t],none,[]⟩
abbrev mA (d t:Nat)(af:P'):Xy:=⟨some d,.move,[.t t],none,af⟩
abbrev mC (d:Nat)(c:Vs):Xy:=⟨some d,.move,[c],none,[]⟩
abbrev rG:List Xy->XH:=.region false
abbrev rD:List Xy->XH:=.region true
abbrev sQ:XH->XH->XH:=.seq
structure Vl where
 ntmps:Nat
 results:List (Nat×Option (Bool×Nat))
 body:XH
def aM:Nat:=1000
def fI (f:Nat):Nat:=bif Nat.blt f aM then f else f-aM
def vw {α:Type}(f:Nat)(vs caps:List α):List α:=bif Nat.blt f aM then vs++caps else caps++vs
def oE:PV->DV
 | .one l=>.one (.p l)
 | .agg cs=>.agg (cs.map .p)
 | .X9 _=>.X9 []
def inj:PV->DV
 | .one l=>.one (.p l)
 | .agg cs=>.agg (cs.map .p)
 | .X9 vs=>.X9 (vs.map oE)
def DV.cells:DV->Option (List DL)
 | .one l=>some [l]
 | .agg cs=>some cs
 | .X9 _=>none
abbrev HF:=Nat->Option Xx
def Xv {α β:Type}(f:α->Option β):List α->Option (List β)
 |[]=>some []
 |x::xs=>match f x with
  |none=>none
  |some y=>match Xv f xs with
   |none=>none
   |some ys=>some (y::ys)
def XC:Nat->HF->DL->Option PL
 |_,_,.p l=>some l
 |0,_,_=>none
 |n+1,h,.own id XM off len=>
  match h id with
  |some b=>bif Nat.beq b.XM XM&& !b.mp&&Nat.ble (off+len) b.ch.length then
    match Xv (Xv (XC n h)) ((b.ch.drop off).take len)with
    |some es=>some (.Xn es)
    |none=>none
   else none
  |none=>none
 |n+1,h,.ptr id XM i off=>
  match h id with
  |some b=>bif Nat.beq b.XM XM&& !b.mp then
    match b.ch[i]? with
    |some c=>match Xv (XC n h) (c.drop off)with
     |some cs=>some (.ref cs)
     |none=>none
    |none=>none
   else none
  |none=>none
 |n+1,h,.fn f caps=>match Xv (XC n h) caps with
  |some cs=>some (.fn f cs)
  |none=>none
 |_+1,_,.mp _=>none
def Vk:Nat->HF->DL->P'
 |_,_,.p _=>[]
 |0,_,_=>[]
 |n+1,h,.own id _ off len=>
  match h id with
  |some b=>id::((b.ch.drop off).take len).flatMap fun c=>c.flatMap (Vk n h)
  |none=>[]
 |n+1,h,.ptr id _ i off=>
  match h id with
  |some b=>match b.ch[i]? with
   |some c=>id::(c.drop off).flatMap (Vk n h)
   |none=>[]
  |none=>[]
 |n+1,h,.fn _ caps=>caps.flatMap (Vk n h)
 |_+1,_,.mp _=>[]
def WC:Nat:=6
def XT (h:HF):DV->Option PV
 | .one l=>match XC WC h l with
   |some l=>some (.one l)
   |none=>none
 | .agg cs=>match Xv (XC WC h) cs with
   |some cs=>some (.agg cs)
   |none=>none
 | .X9 _=>none
def Kq (h:HF):DV->Option PV
 | .X9 vs=>match Xv (XT h) vs with
   |some vs=>some (.X9 vs)
   |none=>none
 |v=>XT h v
def SK (h:HF):DV->P'
 | .one l=>Vk WC h l
 | .agg cs=>cs.flatMap (Vk WC h)
 | .X9 _=>[]
def PL.scalar:PL->Bool
 | .bool _=>true
 | .int _ _=>true
 | .Xq=>true
 | .str _=>true
 | .Qo=>true
 |_=>false
def PV.Nt:PV->Bool
 | .one l=>l.scalar
 | .agg cs=>cs.all PL.scalar
 | .X9 vs=>vs.isEmpty
def PV.scalar:PV->Bool
 | .X9 vs=>vs.all PV.Nt
 |v=>v.Nt
structure Va where
 val:DV
 al:List Xx
 wr:List (Nat×Xx)
 rd:P'
def Va.pure (v:DV):Va:=⟨v,[],[],[]⟩
inductive Mode where
 |pure
 |heap
 |view
 |fresh
structure Xa where
 mode:Nat->Mode
 pure:Nat->List PV->Option PV
 heap:Nat->List DV->List Xx->Option (DV×List Xx)
 iter:Nat->List PL->Option (List (List PV))
def Cr:IntKind->Nat
 | .i8=>0
 | .i16=>1
 | .i32=>2
 | .i64=>3
 | .u8=>4
 | .u16=>5
 | .u32=>6
 | .u64=>7
def fH (a b:IntKind):Bool:=Nat.beq (Cr a) (Cr b)
def Cs:IntKind->Nat
 | .i8=>8
 | .i16=>16
 | .i32=>32
 | .i64=>64
 | .u8=>8
 | .u16=>16
 | .u32=>32
 | .u64=>64
def Ql:IntKind->Nat
 | .i8=>256
 | .i16=>65536
 | .i32=>4294967296
 | .i64=>18446744073709551616
 | .u8=>256
 | .u16=>65536
 | .u32=>4294967296
 | .u64=>18446744073709551616
def ox:IntKind->Bool
 | .i8=>true
 | .i16=>true
 | .i32=>true
 | .i64=>true
 |_=>false
def WR (k:IntKind):Int->Nat
 | .ofNat m=>m%Ql k
 | .negSucc m=>(Ql k-1)-m%Ql k
def UU (k:IntKind)(r:Nat):Int:=
 bif ox k&&Nat.ble (Ql k / 2) r then Int.negSucc (Ql k-r-1)else Int.ofNat r
def Xe (k:IntKind)(n:Int):Int:=UU k (WR k n)
def SR:Int->Int->Bool
 | .ofNat a,.ofNat b=>Nat.blt a b
 | .ofNat _,.negSucc _=>false
 | .negSucc _,.ofNat _=>true
 | .negSucc a,.negSucc b=>Nat.blt b a
def Oi:Int->Int->Bool
 | .ofNat a,.ofNat b=>Nat.beq a b
 | .negSucc a,.negSucc b=>Nat.beq a b
 |_,_=>false
def w9 (a b:Int):Bool:= !SR b a
def En (a:Int)(n:Nat):Int:=
 match a with
 | .ofNat m=>.ofNat (m / 2^n)
 | .negSucc m=>.negSucc (m / 2^n)
def SM (k:IntKind)(n:Int):Option DL:=some (.p (.int k n))
def SC (b:Bool):Option DL:=some (.p (.bool b))
def aN (k:IntKind)(a:Int):Int->Option DL
 | .ofNat n=>SM k (Xe k (a*Int.ofNat (2^(Nat.min n (Cs k)))))
 | .negSucc _=>none
def QX (k:IntKind)(a:Int):Int->Option DL
 | .ofNat n=>SM k (En a (Nat.min n (Cs k)))
 | .negSucc _=>none
def Tk (k:IntKind)(a b:Int):Option DL:=bif Oi b 0 then none else SM k (Xe k (Int.tdiv a b))
def T5 (k:IntKind)(a b:Int):Option DL:=bif Oi b 0 then none else SM k (Int.tmod a b)
def V1 (k k':IntKind)(r:Option DL):Option DL:=bif fH k k' then r else none
def Wx (op:BinOp)(k k':IntKind)(a b:Int):Option DL:=
 match op with
 | .shl=>aN k a b
 | .shr=>QX k a b
 | .add=>V1 k k' (SM k (Xe k (a+b)))
 | .sub=>V1 k k' (SM k (Xe k (a-b)))
 | .mul=>V1 k k' (SM k (Xe k (a*b)))
 | .quo=>V1 k k' (Tk k a b)
 | .rem=>V1 k k' (T5 k a b)
 | .and=>V1 k k' (SM k (UU k (Nat.land (WR k a) (WR k b))))
 | .or=>V1 k k' (SM k (UU k (Nat.lor (WR k a) (WR k b))))
 | .xor=>V1 k k' (SM k (UU k (Nat.xor (WR k a) (WR k b))))
 | .andNot=>V1 k k' (SM k (UU k (Nat.land (WR k a) (Nat.xor (Ql k-1) (WR k b)))))
 | .eql=>V1 k k' (SC (Oi a b))
 | .neq=>V1 k k' (SC (!Oi a b))
 | .lss=>V1 k k' (SC (SR a b))
 | .leq=>V1 k k' (SC (w9 a b))
 | .gtr=>V1 k k' (SC (SR b a))
 | .geq=>V1 k k' (SC (w9 b a))
def DL.isNil:DL->Option Bool
 | .p .Xq=>some true
 | .p (.Xn _)=>some false
 | .own _ _ _ _=>some false
 |_=>none
def Wk (k:IntKind):List DL->List DL->Option Bool
 |[],[]=>some true
 | .p (.int k1 a)::xs,.p (.int k2 b)::ys=>
   bif fH k1 k&&fH k2 k then
    match Wk k xs ys with
    |some r=>some (Oi a b&&r)
    |none=>none
   else none
 |_,_=>none
def H9 (op:UnOp):DL->Option DL
 | .p (.int k n)=>
   match op with
   | .neg=>some (.p (.int k (Xe k (0-n))))
   | .xor=>some (.p (.int k (UU k (Nat.xor (Ql k-1) (WR k n)))))
   |_=>none
 | .p (.bool b)=>
   match op with
   | .not=>some (.p (.bool (!b)))
   |_=>none
 |_=>none
def Ob:List DL->List (Nat×Nat)->List DV->Option (List DL)
 |cs,[],[]=>some cs
 |cs,(off,sz)::ps,v::vs=>
  match v.cells with
  |some ds=>bif Nat.beq ds.length sz&&Nat.ble (off+sz) cs.length then Ob (cs.take off++ds++cs.drop (off+sz)) ps vs else none
  |none=>none
 |_,_,_=>none
def Oc (sz:Nat):List (List DL)->P'->List DV->Option (List (List DL))
 |cs,[],[]=>some cs
 |cs,i::ps,v::vs=>
  match v.cells with
  |some ds=>bif Nat.beq ds.length sz&&Nat.blt i cs.length then Oc sz (cs.set i ds) ps vs else none
  |none=>none
 |_,_,_=>none
def maxD (pickNew:Int->Int->Bool):IntKind->Int->List DV->Option DV
 |k,a,[]=>some (.one (.p (.int k a)))
 |k,a,.one (.p (.int k' b))::vs=>bif fH k k' then maxD pickNew k (bif pickNew a b then b else a) vs else none
 |_,_,_=>none
def Wv (h:HF):DL->Option (List (List DL)×P')
 | .p .Xq=>some ([],[])
 | .p (.Xn es)=>some (es.map (·.map .p),[])
 | .own id XM off len=>
   match h id with
   |some b=>bif Nat.beq b.XM XM&& !b.mp&&Nat.ble (off+len) b.ch.length then some ((b.ch.drop off).take len,[id])else none
   |none=>none
 |_=>none
def Wc:List DL->Bool
 |[]=>true
 | .p _::cs=>Wc cs
 |_::_=>false
def Sx (k:IntKind)(VW:Nat)(key:List DL):List (List DL)->Nat->Option (Option (Nat×List DL))
 |[],_=>some none
 |c::cs,i=>
  match Wk k key (c.take VW)with
  |some true=>some (some (i,c))
  |some false=>Sx k VW key cs (i+1)
  |none=>none
def xR (agg:Bool)(cs:List DL):Option DV:=
 bif agg then some (.agg cs)else match cs with
  |[c]=>some (.one c)
  |_=>none
def lim:Nat:=140737488355328
def ao:List DV->Option Va
 |[x]=>some (.pure x)
 |_=>none
def S1:List DV->Option Va
 |[.one (.ptr id XM i off)]=>some (.pure (.one (.ptr id XM i off)))
 |[.one (.p (.ref cs))]=>some (.pure (.one (.p (.ref cs))))
 |[.one (.fn f cs)]=>some (.pure (.one (.fn f cs)))
 |[.one (.p (.fn f cs))]=>some (.pure (.one (.p (.fn f cs))))
 |_=>none
def ak:List DV->Option Va
 |[.one (.p (.bool c)),a,b]=>some (.pure (bif c then a else b))
 |_=>none
def bH (t n:Nat):List DV->Option Va
 |[x]=>match x.cells with
  |some cs=>some ⟨.one (.ptr n 0 0 0),[⟨false,0,cs.length,[cs],false,t⟩],[],[]⟩
  |none=>none
 |_=>none
def QF (t:Nat)(z:List PL)(n:Nat):List DV->Option Va
 |[]=>some ⟨.one (.ptr n 0 0 0),[⟨false,0,z.length,[z.map .p],false,t⟩],[],[]⟩
 |_=>none
def PU (z:List PL)(places:List (Nat×Nat))(vs:List DV):Option Va:=
 match Ob (z.map .p) places vs with
 |some cs=>some (.pure (.agg cs))
 |none=>none
def Uc (e:Nat)(z:List PL)(len:Nat)(places:P')(n:Nat)(vs:List DV):Option Va:=
 match Oc z.length (List.replicate len (z.map .p)) places vs with
 |some cs=>some ⟨.one (.own n 0 0 len),[⟨false,0,z.length,cs,false,e⟩],[],[]⟩
 |none=>none
def Sa (agg:Bool)(sz:Nat)(cs:List DL):Option DV:=
 bif agg then(bif Nat.ble sz cs.length then some (.agg (cs.take sz))else none)
 else match cs with
  |c::_=>some (.one c)
  |[]=>none
def QL (h:HF)(id XM i:Nat):Option (List DL):=
 match h id with
 |some b=>bif Nat.beq b.XM XM&& !b.mp then b.ch[i]? else none
 |none=>none
def PR (agg:Bool)(sz:Nat)(h:HF):List DV->Option Va
 |[.one (.p (.ref cs))]=>match Sa agg sz (cs.map .p)with
  |some v=>some (.pure v)
  |none=>none
 |[.one (.ptr id XM i off)]=>match QL h id XM i with
  |some c=>bif Nat.ble off c.length then
    match Sa agg sz (c.drop off)with
    |some v=>some ⟨v,[],[],[id]⟩
    |none=>none
   else none
  |none=>none
 |_=>none
def PE (base sz id XM i off:Nat)(b:Xx)(cs:List DL):Option Va:=
 bif Nat.beq b.XM XM&& !b.mp&& !b.fz&&Nat.beq cs.length sz&&(Nat.ble base id||Wc cs)then
  match b.ch[i]? with
  |some c=>bif Nat.ble (off+sz) c.length then some ⟨.X9 [],[],[(id,{b with ch:=b.ch.set i (c.take off++cs++c.drop (off+sz))})],[id]⟩else none
  |none=>none
 else none
def QC (base sz:Nat)(h:HF):List DV->Option Va
 |[.one (.ptr id XM i off),x]=>match h id with
  |some b=>match x.cells with
   |some cs=>PE base sz id XM i off b cs
   |none=>none
  |none=>none
 |_=>none
def iR (op:BinOp):List DV->Option Va
 |[.one (.p (.int k a)),.one (.p (.int k' b))]=>match Wx op k k' a b with
  |some d=>some (.pure (.one d))
  |none=>none
 |_=>none
def au (neq:Bool):List DV->Option Va
 |[.one (.p (.bool a)),.one (.p (.bool b))]=>some (.pure (.one (.p (.bool ((a==b)!=neq)))))
 |_=>none
def uS (neq:Bool)(x y:DL):Option Bool:=
 match x.isNil,y.isNil with
 |some true,some b=>some (b !=neq)
 |some false,some true=>some neq
 |_,_=>none
def Uo (neq:Bool):List DV->Option Va
 |[.one x,.one y]=>match uS neq x y with
  |some b=>some (.pure (.one (.p (.bool b))))
  |none=>none
 |_=>none
def UJ (neq:Bool)(k:IntKind)(len:Nat):List DV->Option Va
 |[.agg xs,.agg ys]=>bif Nat.beq xs.length len then
   match Wk k xs ys with
   |some b=>some (.pure (.one (.p (.bool (b !=neq)))))
   |none=>none
  else none
 |_=>none
def iQ (op:UnOp):List DV->Option Va
 |[.one x]=>match H9 op x with
  |some d=>some (.pure (.one d))
  |none=>none
 |_=>none
def ar (k:IntKind):List DV->Option Va
 |[.one (.p (.int _ n))]=>some (.pure (.one (.p (.int k (Xe k n)))))
 |_=>none
def Uv (off:Nat):List DV->Option Va
 |[.one (.p (.ref cs))]=>bif Nat.ble off cs.length then some (.pure (.one (.p (.ref (cs.drop off)))))else none
 |[.one (.ptr id XM i o)]=>some (.pure (.one (.ptr id XM i (o+off))))
 |_=>none
def VV (sz:Nat)(h:HF):List DV->Option Va
 |[.one (.p (.Xn es)),.one (.p (.int _ (.ofNat i)))]=>match es[i]? with
  |some c=>bif Nat.beq c.length sz then some (.pure (.one (.p (.ref c))))else none
  |none=>none
 |[.one (.own id XM off len),.one (.p (.int _ (.ofNat i)))]=>match h id with
  |some b=>bif Nat.beq b.sz sz&&Nat.blt i len then some ⟨.one (.ptr id XM (off+i) 0),[],[],[id]⟩else none
  |none=>none
 |_=>none
def Ro (len sz:Nat):List DV->Option Va
 |[.one (.p (.ref cs)),.one (.p (.int _ (.ofNat i)))]=>
  bif Nat.blt i len&&Nat.ble (i*sz) cs.length then some (.pure (.one (.p (.ref (cs.drop (i*sz))))))else none
 |[.one (.ptr id XM j o),.one (.p (.int _ (.ofNat i)))]=>
  bif Nat.blt i len then some (.pure (.one (.ptr id XM j (o+i*sz))))else none
 |_=>none
def Sr (len:Nat)(agg:Bool)(sz:Nat):List DV->Option Va
 |[.agg cs,.one (.p (.int _ (.ofNat i)))]=>bif Nat.blt i len&&Nat.ble (i*sz) cs.length then
   match Sa agg sz (cs.drop (i*sz))with
   |some v=>some (.pure v)
   |none=>none
  else none
 |_=>none
def Ui:List DV->Option Va
 |[.one (.p (.str bs)),.one (.p (.int _ (.ofNat i)))]=>match bs[i]? with
  |some b=>some (.pure (.one (.p (.int .u8 b))))
  |none=>none
 |_=>none
def PS (agg:Bool)(sz off:Nat):List DV->Option Va
 |[.agg cs]=>bif Nat.ble off cs.length then
   match Sa agg sz (cs.drop off)with
   |some v=>some (.pure v)
   |none=>none
  else none
 |_=>none
def Qx (sz:Nat):Option (List PL)->Bool
 |some c=>Nat.beq c.length sz
 |none=>true
def WA (sz:Nat)(h:HF)(x:DL)(l:Nat)(u:Option Nat):Option (DL×P'):=
 match x with
 | .p (.Xn es)=>bif Nat.ble l (u.getD es.length)&&Nat.ble (u.getD es.length) es.length&&Qx sz es[l]? then some (.p (.Xn ((es.take (u.getD es.length)).drop l)),[])else none
 | .p .Xq=>bif Nat.beq l 0&&Nat.beq (u.getD 0) 0 then some (.p .Xq,[])else none
 | .own id XM off len=>match h id with
   |some b=>bif Nat.ble l (u.getD len)&&(Nat.ble (u.getD len) len||(Nat.beq b.XM XM&& !b.mp&&Nat.beq off 0&&Nat.blt 0 sz&&Nat.ble (u.getD len) b.ch.length))&&Nat.beq b.sz sz then some (.own id XM (off+l) (u.getD len-l),[id])else none
   |none=>none
 |_=>none
def V7 (lo hi:Bool):List DV->Option (DL×Nat×Option Nat)
 |[.one x]=>bif lo||hi then none else some (x,0,none)
 |[.one x,.one (.p (.int _ (.ofNat a)))]=>match lo,hi with
  |true,false=>some (x,a,none)
  |false,true=>some (x,0,some a)
  |_,_=>none
 |[.one x,.one (.p (.int _ (.ofNat a))),.one (.p (.int _ (.ofNat b)))]=>bif lo&&hi then some (x,a,some b)else none
 |_=>none
def QD (sz:Nat)(lo hi:Bool)(h:HF)(vs:List DV):Option Va:=
 match V7 lo hi vs with
 |some (x,l,u)=>match WA sz h x l u with
  |some (d,rd)=>some ⟨.one d,[],[],rd⟩
  |none=>none
 |none=>none
def Pg:List DV->Option Va
 |[.one (.own _ _ _ len),.one (.p (.int _ (.ofNat a))),.one (.p (.int _ (.ofNat b))),.one (.p (.int _ (.ofNat c)))]=>
  bif Nat.ble a b&&Nat.ble b c&&Nat.ble c len then some (.pure (.one (.p .Qo)))else none
 |_=>none
def S3 (n:Nat):List DV->Option Va
 |[.X9 vs]=>match vs[n]? with
  |some v=>some (.pure v)
  |none=>none
 |_=>none
def Oa:List DV->Option Va
 |[.one (.p .Xq)]=>some (.pure (.one (.p (.int .i64 (.ofNat 0)))))
 |[.one (.p (.Xn es))]=>some (.pure (.one (.p (.int .i64 (.ofNat es.length)))))
 |[.one (.own _ _ _ len)]=>some (.pure (.one (.p (.int .i64 (.ofNat len)))))
 |_=>none
def aq (n:Nat):List DV->Option Va
 |[_]=>some (.pure (.one (.p (.int .i64 (.ofNat n)))))
 |_=>none
def WZ (e sz bytes n:Nat)(new:List (List DL))(ids:P'):Option Va:=
 bif Nat.ble (new.length*bytes) lim&&Nat.ble new.length 9223372036854775807 then
  match new with
  |[]=>some ⟨.one (.p .Xq),[],[],ids⟩
  |_=>some ⟨.one (.own n 0 0 new.length),[⟨false,0,sz,new,false,e⟩],[],ids⟩
 else none
def Tv (base e sz bytes id XM len:Nat)(b:Xx)(new:List (List DL))(ids:P'):Option Va:=
 bif Nat.beq b.XM XM&& !b.mp&& !b.fz&&Nat.beq b.ch.length len&&Nat.beq b.sz sz&&Nat.beq b.ty e&&Nat.ble base id&&Nat.ble ((len+new.length)*bytes) lim&&Nat.ble (len+new.length) 9223372036854775807 then
  some ⟨.one (.own id (XM+1) 0 (len+new.length)),[],[(id,{b with XM:=XM+1,ch:=b.ch++new})],id::ids⟩
 else none
def Ry (base e sz id XM len:Nat)(b:Xx)(new:List (List DL))(ids:P'):Option Va:=
 bif Nat.beq b.XM XM&& !b.mp&& !b.fz&&Nat.ble (len+new.length) b.ch.length&&Nat.beq b.sz sz&&Nat.beq b.ty e&&Nat.ble base id then
  some ⟨.one (.own id XM 0 (len+new.length)),[],[(id,{b with ch:=b.ch.take len++new++b.ch.drop (len+new.length)})],id::ids⟩
 else none
def Vh (base e sz bytes:Nat)(h:HF)(n:Nat):List DV->Option Va
 |[.one x,.one y]=>match Wv h y with
  |some (new,ids)=>bif new.all (fun c=>Nat.beq c.length sz)then
    match x with
    | .p .Xq=>WZ e sz bytes n new ids
    | .own id XM 0 len=>match h id with
      |some b=>bif Nat.beq b.ch.length len then Tv base e sz bytes id XM len b new ids else Ry base e sz id XM len b new ids
      |none=>none
    |_=>none
   else none
  |none=>none
 |_=>none
def Uu (e:Nat)(z:List PL)(bytes n:Nat):List DV->Option Va
 |[.one (.p (.int _ (.ofNat l))),.one (.p (.int _ (.ofNat c)))]=>
  bif Nat.ble l c&&Nat.ble (bytes*c) lim&&Nat.ble c 9223372036854775807 then
   some ⟨.one (.own n 0 0 l),[⟨false,0,z.length,List.replicate l (z.map .p),false,e⟩],[],[]⟩
  else none
 |_=>none
def Qg (pickNew:Int->Int->Bool):List DV->Option Va
 | .one (.p (.int k a))::vs=>match maxD pickNew k a vs with
   |some v=>some (.pure v)
   |none=>none
 |_=>none
def O4 (base sz id XM off len:Nat)(b:Xx)(new:List (List DL))(ids:P'):Option Va:=
 bif Nat.beq b.XM XM&& !b.mp&& !b.fz&&Nat.beq b.sz sz&&Nat.ble (off+len) b.ch.length&&new.all (fun c=>Nat.beq c.length sz)&&(Nat.ble base id||new.all Wc)then
  some ⟨.one (.p (.int .i64 (.ofNat (Nat.min len new.length)))),[],[(id,{b with ch:=b.ch.take off++new.take len++b.ch.drop (off+Nat.min len new.length)})],id::ids⟩
 else none
def PT (base sz:Nat)(h:HF):List DV->Option Va
 |[.one (.own id XM off len),.one y]=>match h id with
  |some b=>match Wv h y with
   |some (new,ids)=>O4 base sz id XM off len b new ids
   |none=>none
  |none=>none
 |_=>none
def QE (base:Nat)(z:List PL)(h:HF):List DV->Option Va
 |[.one (.own id XM off len)]=>match h id with
  |some b=>bif Nat.beq b.XM XM&& !b.mp&& !b.fz&&Nat.beq b.sz z.length&&Nat.ble (off+len) b.ch.length&&Nat.ble base id then
    some ⟨.X9 [],[],[(id,{b with ch:=b.ch.take off++List.replicate len (z.map .p)++b.ch.drop (off+len)})],[id]⟩
   else none
  |none=>none
 |_=>none
def tD (agg:Bool):Nat:=bif agg then 1 else 0
def T8 (VW:Nat)(agg:Bool)(n:Nat):List DV->Option Va
 |[]=>some ⟨.one (.mp n),[⟨false,0,VW,[],true,tD agg⟩],[],[]⟩
 |_=>none
def vt (VW:Nat)(agg:Bool)(z:List PL):Option (Nat×List DL)->Option DV
 |some (_,c)=>xR agg (c.drop VW)
 |none=>xR agg (z.map .p)
def aA (VW:Nat)(k:IntKind)(agg:Bool)(z:List PL)(ok:Bool)(id:Nat)(b:Xx)(kc:List DL):Option Va:=
 bif b.mp&&Nat.beq b.sz VW&&Nat.beq kc.length VW&&Nat.beq b.ty (tD agg)&&(Wk k kc kc).isSome then
  match Sx k VW kc b.ch 0 with
  |some r=>match vt VW agg z r with
   |some v=>some ⟨bif ok then .X9 [v,.one (.p (.bool r.isSome))]else v,[],[],[id]⟩
   |none=>none
  |none=>none
 else none
def U9 (VW:Nat)(k:IntKind)(agg:Bool)(z:List PL)(ok:Bool)(h:HF):List DV->Option Va
 |[.one (.mp id),.agg kc]=>match h id with
  |some b=>aA VW k agg z ok id b kc
  |none=>none
 |_=>none
def DV.isAgg:DV->Bool
 | .agg _=>true
 |_=>false
def gy (VW:Nat)(k:IntKind)(id:Nat)(b:Xx)(kc xc:List DL):Option Va:=
 match Sx k VW kc b.ch 0 with
 |some (some (i,_))=>some ⟨.X9 [],[],[(id,{b with ch:=b.ch.set i (kc++xc)})],[id]⟩
 |some none=>some ⟨.X9 [],[],[(id,{b with ch:=b.ch++[kc++xc]})],[id]⟩
 |none=>none
def VA (VW:Nat)(k:IntKind)(agg:Bool)(vsz:Nat)(h:HF):List DV->Option Va
 |[.one (.mp id),.agg kc,x]=>match h id with
  |some b=>match x.cells with
   |some xc=>bif b.mp&& !b.fz&&Nat.beq b.sz VW&&Nat.beq kc.length VW&&Nat.beq xc.length vsz&&Nat.beq b.ty (tD agg)&&(x.isAgg==agg)&&(Wk k kc kc).isSome then
     gy VW k id b kc xc
    else none
   |none=>none
  |none=>none
 |_=>none
def TE (h:HF):List DV->Option Va
 |[.one (.mp id)]=>match h id with
  |some b=>bif b.mp&& !Nat.beq b.ty 2 then some ⟨.one (.p (.int .i64 (.ofNat b.ch.length))),[],[],[id]⟩else none
  |none=>none
 |_=>none
def uO:DV->Option DL
 | .one l=>some l
 |_=>none
def U8 (f:Nat)(vs:List DV):Option Va:=
 match Xv uO vs with
 |some caps=>some (.pure (.one (.fn f caps)))
 |none=>none
def Xj (H:List Xx):HF:=fun id=>H[id]?
def TV:List DV->Option (Nat×Nat×Nat)
 |[]=>none
 | .one (.own id XM 0 len)::_=>some (id,XM,len)
 |_::vs=>TV vs
def RD:List DV->List DV
 |[]=>[]
 | .one (.own _ XM 0 len)::vs=>.one (.own 0 XM 0 len)::vs
 |v::vs=>v::RD vs
def SP:DV->Bool
 | .one (.p _)=>true
 | .agg cs=>Wc cs
 |_=>false
def RO:List DV->Bool
 |[]=>true
 | .one (.own _ _ 0 _)::vs=>vs.all SP
 |v::vs=>SP v&&RO vs
def WI (E:Xa)(h:HF)(f:Nat)(vs:List DV):Option Va:=
 match TV vs with
 |none=>bif vs.all SP then match E.heap f vs []with
  |some (d,G)=>match XT (Xj G) d with
   |some r=>some ⟨inj r,[],[],[]⟩
   |none=>none
  |none=>none else none
 |some (id,XM,_)=>bif RO vs then match h id with
  |some b=>bif Nat.beq b.XM XM&& !b.mp&& !b.fz&&b.ch.all Wc then
    match E.heap f (RD vs) [b]with
    |some (d,b'::G)=>match XT (Xj (b'::G)) d with
     |some r=>bif Nat.beq b'.XM b.XM&& !b'.fz&& !b'.mp&&b'.ch.all Wc&& !((SK (Xj (b'::G)) d).contains 0)then some ⟨inj r,[],[(id,b')],[id]⟩else none
     |none=>none
    |_=>none
   else none
  |none=>none
 else none
def VB (E:Xa)(h:HF)(f:Nat)(vs:List DV):Option Va:=
 match E.mode f with
 | .pure=>match Xv (XT h) vs with
   |some ps=>match E.pure f ps with
    |some r=>bif(vs.flatMap (SK h)).isEmpty||r.scalar then some ⟨inj r,[],[],vs.flatMap (SK h)⟩
     else some ⟨inj r,[],(vs.flatMap (SK h)).filterMap (fun id=>(h id).map fun b=>(id,{b with fz:=true})),vs.flatMap (SK h)⟩
    |none=>none
   |none=>none
 | .heap=>none
 |_=>WI E h f vs
def TX (E:Xa)(f:Nat)(vs:List DV)(H:List Xx):Option (DV×List Xx):=
 match TV vs with
 |none=>bif vs.all SP then match E.heap f vs []with
   |some (.one (.own i XM 0 len),G)=>match G[i]? with
    |some b=>bif !b.fz&& !b.mp&&b.ch.all Wc then some (.one (.own H.length XM 0 len),H++[b])else none
    |none=>none
   |_=>none
  else none
 |some (id,XM,_)=>bif RO vs then match H[id]? with
  |some b=>bif Nat.beq b.XM XM&& !b.mp&& !b.fz&&b.ch.all Wc then
    match E.heap f (RD vs) [b]with
    |some (.one (.own (i+1) ver' 0 len),b'::G)=>match G[i]? with
     |some x=>bif Nat.beq b'.XM b.XM&& !b'.fz&& !b'.mp&&b'.ch.all Wc&& !x.fz&& !x.mp&&x.ch.all Wc then some (.one (.own H.length ver' 0 len),H.set id b'++[x])else none
     |none=>none
    |_=>none
   else none
  |none=>none
  else none
def Rc (E:Xa)(h:HF):List DV->Option Va
 | .one (.p (.fn f caps))::vs=>VB E h (fI f) (vw f vs (caps.map fun l=>.one (.p l)))
 | .one (.fn f caps)::vs=>VB E h (fI f) (vw f vs (caps.map .one))
 |_=>none
def We (E:Xa)(base:Nat)(op:cH)(vs:List DV)(h:HF)(n:Nat):Option Va:=
 match op with
 | .move=>ao vs
 | .nilCheck=>S1 vs
 | .pick=>ak vs
 | .box t=>bH t n vs
 | .alloc t z=>QF t z n vs
 | .build z places=>PU z places vs
 | .buildSlice e z len places=>Uc e z len places n vs
 | .load agg sz=>PR agg sz h vs
 | .store sz=>QC base sz h vs
 | .bin op=>iR op vs
 | .Ar neq=>au neq vs
 | .ei neq=>Uo neq vs
 | .aO neq k len=>UJ neq k len vs
 | .un op=>iQ op vs
 | .conv k=>ar k vs
 | .fieldAddr off=>Uv off vs
 | .P1 sz=>VV sz h vs
 | .jo len sz=>Ro len sz vs
 | .TI=>Ui vs
 | .jn len agg sz=>Sr len agg sz vs
 | .field agg sz off=>PS agg sz off vs
 | .slice sz lo hi=>QD sz lo hi h vs
 | .extract m=>S3 m vs
 | .len=>Oa vs
 | .Cn m=>aq m vs
 | .append e sz bytes=>Vh base e sz bytes h n vs
 | .makeSlice e z bytes=>Uu e z bytes n vs
 | .max=>Qg SR vs
 | .min=>Qg (fun a b=>SR b a) vs
 | .copy sz=>PT base sz h vs
 | .makeMap VW agg=>T8 VW agg n vs
 | .lookup VW k agg z ok=>U9 VW k agg z ok h vs
 | .mapUpdate VW k agg vsz=>VA VW k agg vsz h vs
 | .OP=>TE h vs
 | .makeFunc f=>U8 f vs
 | .call f=>VB E h f vs
 | .Sd=>Rc E h vs
 | .clear z=>QE base z h vs
 | .slice3=>Pg vs
structure St where
 T:List (Nat×DV)
 H:List Xx
def Xh:List (Nat×DV)->Nat->Option DV
 |[],_=>none
 |(t,v)::T,n=>bif Nat.beq t n then some v else Xh T n
def Vs.eval (T:List (Nat×DV)):Vs->Option DV
 | .t n=>Xh T n
 | .c v=>some (inj v)
def Eo {α β:Type}:List α->Nat->α->(List α->β)->β
 |[],_,_,k=>k []
 |_::xs,0,v,k=>k (v::xs)
 |x::xs,n+1,v,k=>Eo xs n v fun ys=>k (x::ys)
def FX {α β:Type}:List α->List α->(List α->β)->β
 |[],ys,k=>k ys
 |x::xs,ys,k=>FX xs ys fun zs=>k (x::zs)
def rE {β:Type}(n:Nat)(k:Nat->β):β:=
 match n with
 |0=>k 0
 |m+1=>k (m+1)
def HK {β:Type}(n:Int)(k:Int->β):β:=
 match n with
 | .ofNat m=>rE m fun m=>k (.ofNat m)
 | .negSucc m=>rE m fun m=>k (.negSucc m)
def wZ {β:Type}(l:DL)(k:DL->β):β:=
 match l with
 | .p (.int i n)=>HK n fun n=>k (.p (.int i n))
 | .p (.bool b)=>match b with
   |true=>k (.p (.bool true))
   |false=>k (.p (.bool false))
 | .own id XM off len=>rE XM fun XM=>rE off fun off=>rE len fun len=>k (.own id XM off len)
 | .ptr id XM i off=>rE i fun i=>rE off fun off=>k (.ptr id XM i off)
 |l=>k l
def fW {β:Type}:List DL->(List DL->β)->β
 |[],k=>k []
 |l::ls,k=>wZ l fun l=>fW ls fun ls=>k (l::ls)
def D8 {β:Type}(v:DV)(k:DV->β):β:=
 match v with
 | .one l=>wZ l fun l=>k (.one l)
 | .agg cs=>fW cs fun cs=>k (.agg cs)
 | .X9 vs=>k (.X9 vs)
def VZ (H:List Xx):List (Nat×Xx)->List Xx
 |[]=>H
 |(id,b)::ws=>VZ (H.set id b) ws
def OD (T:List (Nat×DV))(dst:Option Nat)(v:DV):List (Nat×DV):=
 match dst with
 |some d=>(d,v)::T
 |none=>T
def BL {β:Type}(T:List (Nat×DV))(dst:Option Nat)(v:DV)(k:List (Nat×DV)->β):β:=
 match dst with
 |some d=>k ((d,v)::T)
 |none=>k T
def J7 {β:Type}(H:List Xx):List (Nat×Xx)->(List Xx->β)->β
 |[],k=>k H
 |(id,b)::ws,k=>Eo H id b fun H=>J7 H ws k
def K0 {β:Type}(H al:List Xx)(k:List Xx->β):β:=
 match al with
 |[]=>k H
 |_=>FX H al k
def Ng (H al:List Xx):List Xx:=
 match al with
 |[]=>H
 |_=>H++al
structure QA where
 i:Nat
 rd:P'
 wr:P'
 after:P'
 lo:Nat
 hi:Nat
def UW (T:List (Nat×DV)):Option (Nat×Bool)->Option Bool
 |none=>some true
 |some (t,want)=>
  match Xh T t with
  |some (.one (.p (.bool b)))=>some (b==want)
  |some (.X9 [])=>some false
  |_=>none
def Vq (E:Xa)(dst:Option Nat)(f:Nat)(vs:List DV)(s:St):Option (St×P'×P'):=
 match E.mode f with
 | .heap=>match E.heap f vs s.H with
   |some (v,H)=>BL s.T dst v fun T=>some (⟨T,H⟩,[],[])
   |none=>none
 | .fresh=>match TX E f vs s.H with
   |some (v,H)=>BL s.T dst v fun T=>some (⟨T,H⟩,[],[])
   |none=>none
 |_=>none
def Ts (E:Xa)(f:Nat):Bool:=
 match E.mode f with
 | .heap=>true
 |_=>false
def NH (E:Xa)(f:Nat):Bool:=
 match E.mode f with
 | .heap=>true
 | .fresh=>true
 |_=>false
def Xl (E:Xa)(op:cH):Bool:=
 match op with
 | .call f=>Ts E f
 |_=>false
def XL (E:Xa)(op:cH)(vs:List DV):Bool:=
 match op with
 | .call f=>NH E f
 | .Sd=>match vs with
   | .one (.p (.fn f _))::_=>Ts E (fI f)
   | .one (.fn f _)::_=>Ts E (fI f)
   |_=>false
 |_=>false
def Pq (E:Xa)(o:Xy)(vs:List DV)(s:St):Option (St×P'×P'):=
 match o.op with
 | .call f=>Vq E o.dst f vs s
 | .Sd=>match vs with
   | .one (.p (.fn f caps))::vs=>Vq E o.dst (fI f) (vw f vs (caps.map fun l=>.one (.p l))) s
   | .one (.fn f caps)::vs=>Vq E o.dst (fI f) (vw f vs (caps.map .one)) s
   |_=>none
 |_=>none
def Pr (o:Xy)(s:St)(r:Va):Option (St×P'×P'):=
 D8 r.val fun v=>BL s.T o.dst v fun T=>J7 s.H r.wr fun H=>K0 H r.al fun H=>some (⟨T,H⟩,r.rd,r.wr.map (·.1))
def Vp (E:Xa)(base:Nat)(heap:Bool)(o:Xy)(s:St):Option (St×P'×P'):=
 match UW s.T o.guard with
 |none=>none
 |some false=>BL s.T o.dst (.X9 []) fun T=>some (⟨T,s.H⟩,[],[])
 |some true=>
  match Xv (Vs.eval s.T) o.args with
  |none=>none
  |some vs=>bif heap&&XL E o.op vs then Pq E o vs s else
   match We E base o.op vs (Xj s.H) s.H.length with
   |some r=>Pr o s r
   |none=>none
def UY (E:Xa)(base:Nat):List Xy->St->Option St
 |[],s=>some s
 |o::os,s=>
  match Vp E base true o s with
  |some (s,_,_)=>UY E base os s
  |none=>none
def SF (l:P'):Nat->Bool
 |0=>true
 |i+1=>l.contains i&&SF l i
def Tg (E:Xa)(base:Nat):Nat->List Xy->St->Option (St×List QA)
 |_,[],s=>some (s,[])
 |i,o::os,s=>
  bif Xl E o.op&& !(os.isEmpty&&SF o.after i)then none else
  match Vp E base (Xl E o.op) o s with
  |some (s1,rd,wr)=>
   match Tg E base (i+1) os s1 with
   |some (s2,fs)=>some (s2,⟨i,rd,wr,o.after,s.H.length,s1.H.length⟩::fs)
   |none=>none
  |none=>none
def OV (f g:QA):Bool:=
 Nat.beq f.i g.i||
  (f.wr.all (fun id=> !(g.wr.contains id)&&(!(g.rd.contains id)||f.after.contains g.i))&&
   g.rd.all (fun id=> !(Nat.ble f.lo id&&Nat.blt id f.hi)||g.after.contains f.i)&&
   g.wr.all (fun id=> !(Nat.ble f.lo id&&Nat.blt id f.hi)||g.after.contains f.i))
def RZ (fs:List QA):Bool:=
 fs.all fun f=>(f.wr.isEmpty&&Nat.beq f.lo f.hi)||fs.all fun g=>OV f g
def TB (E:Xa)(base:Nat)(ops:List Xy)(s:St):Option St:=
 match Tg E base 0 ops s with
 |some (s,fs)=>bif RZ fs then some s else none
 |none=>none
def Si:Nat->List Xy->Bool
 |_,[]=>true
 |i,o::os=>SF o.after i&&Si (i+1) os
def P3 (E:Xa)(base:Nat)(pre suf:List Xy)(s:St):Option St:=
 match TB E base pre s with
 |some s=>UY E base suf s
 |none=>none
inductive Ex where
 |normal
 |exit (id:Nat)
 |ret
def V3 (T:List (Nat×DV)):P'->List (Nat×DV)
 |[]=>[]
 |k::ks=>match Xh T k with
  |some v=>(k,v)::V3 T ks
  |none=>V3 T ks
def rZ {β:Type}(T:List (Nat×DV)):P'->(List (Nat×DV)->β)->β
 |[],k=>k []
 |n::ns,k=>match Xh T n with
  |some v=>rZ T ns fun U=>k ((n,v)::U)
  |none=>rZ T ns k
def OO (body:St->Option (Ex×St)):Nat->St->Option (Ex×St)
 |0,_=>none
 |k+1,s=>
  match body s with
  |some (.normal,s)=>OO body k s
  |r=>r
def Q7:P'->List PV->List (Nat×DV)->Option (List (Nat×DV))
 |[],[],T=>some T
 |v::vs,x::xs,T=>Q7 vs xs ((v,inj x)::T)
 |_,_,_=>none
def Tp (T:List (Nat×DV))(body:St->Option (Ex×St))(vars:P'):List (List PV)->List Xx->Option (Ex×St)
 |[],H=>some (.normal,⟨T,H⟩)
 |xs::rest,H=>
  match Q7 vars xs T with
  |some T1=>
   match body ⟨T1,H⟩with
   |some (.normal,s)=>Tp T body vars rest s.H
   |some (.exit id,s)=>some (.exit id,⟨T,s.H⟩)
   |some (.ret,s)=>some (.ret,⟨T,s.H⟩)
   |none=>none
  |none=>none
def XH.flat:XH->Bool
 | .seq a b=>a.flat&&b.flat
 | .cond _ a b=>a.flat&&b.flat
 | .block _ c=>c.flat
 | .loop c=>c.flat
 | .VM _ c=>c.flat
 | .scope _=>false
 | .Og _ _ _ _=>false
 |_=>true
def Sn (pre body:St->Option (Ex×St))(s:St):Option (Ex×St):=
 match pre s with
 |some (.normal,s)=>body s
 |_=>none
def XI (E:Xa)(K base:Nat):XH->St->Option (Ex×St)
 | .skip,s=>some (.normal,s)
 | .region false ops,s=>
   match UY E base ops s with
   |some s=>some (.normal,s)
   |none=>none
 | .region true ops,s=>
   match TB E base ops s with
   |some s=>some (.normal,s)
   |none=>none
 | .RP pre suf,s=>
   match P3 E base pre suf s with
   |some s=>some (.normal,s)
   |none=>none
 | .seq a b,s=>
   match XI E K base a s with
   |some (.normal,s)=>XI E K base b s
   |r=>r
 | .cond c a b,s=>
   match c.eval s.T with
   |some (.one (.p (.bool true)))=>XI E K base a s
   |some (.one (.p (.bool false)))=>XI E K base b s
   |_=>none
 | .block id c,s=>
   match XI E K base c s with
   |some (.exit j,s)=>bif j==id then some (.normal,s)else some (.exit j,s)
   |r=>r
 | .loop c,s=>OO (fun s=>XI E K base c s) K s
 | .VM ks c,s=>rZ s.T ks fun T=>XI E K base c ⟨T,s.H⟩
 | .scope c,s=>XI E K base c s
 | .exit id,s=>some (.exit id,s)
 | .ret,s=>some (.ret,s)
 | .Og f vars pre body,s=>
   match f.eval s.T with
   |some (.one (.p (.fn f caps)))=>
    match E.iter f caps with
    |some xss=>bif pre.flat&&body.flat&&Nat.blt f aM then Tp s.T (Sn (fun s=>XI E K base pre s) (fun s=>XI E K base body s)) vars xss s.H else none
    |none=>none
   |_=>none
def WH (s:St):Nat×Option (Bool×Nat)->Option DV
 |(t,none)=>Xh s.T t
 |(t,some (agg,sz))=>
  match Xh s.T t with
  |some (.one (.ptr id XM i off))=>
   match s.H[id]? with
   |some b=>bif Nat.beq b.XM XM&& !b.mp then
     match b.ch[i]? with
     |some c=>
      bif agg then(bif Nat.ble (off+sz) c.length then some (.agg ((c.drop off).take sz))else none)
      else match c.drop off with
       |d::_=>some (.one d)
       |[]=>none
     |none=>none
    else none
   |none=>none
  |_=>none
def xS {β:Type}:List DV->Nat->(List (Nat×DV)->β)->β
 |[],_,k=>k []
 |v::vs,i,k=>xS vs (i+1) fun T=>k ((i,v)::T)
def Qu (E:Xa)(K:Nat)(xf:Vl)(args:List DV)(H:List Xx):Option (List DV×St):=
 match(bif Nat.ble args.length xf.ntmps then xS args 0 fun T=>XI E K 0 xf.body ⟨T,H⟩else none)with
 |some (.normal,s)|some (.ret,s)=>
  match Xv (WH s) xf.results with
  |some rs=>some (rs,s)
  |none=>none
 |_=>none
def eI:List PV->PV
 |[v]=>v
 |vs=>.X9 vs
def UX (E:Xa)(K:Nat)(xf:Vl)(args:List PV):Option PV:=
 match Qu E K xf (args.map inj) []with
 |some (rs,s)=>
  match Xv (XT (Xj s.H)) rs with
  |some ps=>some (eI ps)
  |none=>none
 |none=>none
def wN:List DV->DV
 |[v]=>v
 |vs=>.X9 vs
def DV.plain:DV->Bool
 | .X9 _=>false
 |_=>true
def VD (E:Xa)(K:Nat)(xf:Vl)(args:List DV)(H:List Xx):Option (DV×List Xx):=
 match Qu E K xf args H with
 |some (rs,s)=>bif rs.all DV.plain then some (wN rs,s.H)else none
 |none=>none
def lift (X:Nat->Option Vl)(K:Nat)(E:Xa):Xa:=
 ⟨E.mode,
  fun f args=>match X f with
   |some xf=>UX E K xf args
   |none=>E.pure f args,
  fun f args H=>match X f with
   |some xf=>VD E K xf args H
   |none=>E.heap f args H,
  E.iter⟩
def ev (E0:Xa)(X:Nat->Option Vl)(K:Nat):Nat->Xa
 |0=>E0
 |n+1=>lift X K (ev E0 X K n)
def kL:Value->Option PL
 | .bool b=>some (.bool b)
 | .int k n=>some (.int k n)
 | .slice none 0 0=>some .Xq
 | .string s=>some (.str (s.data.toList.map UInt8.toNat))
 | .nilFunc=>some .Qo
 | .nilIface=>some .Qo
 | .pointer none=>some .Qo
 |_=>none
def E7:Value->Option PV
 | .agg cs=>match Xv kL cs.toList with
   |some ls=>some (.agg ls)
   |none=>none
 | .tuple vs=>if vs.isEmpty then some (.X9 [])else none
 |v=>match kL v with
  |some l=>some (.one l)
  |none=>none
def zeroOf (P:Program)(t:TypeId):Option (List PL):=
 match P.info? t with
 |some i=>match i.zero with
  |some z=>match Xv kL z.cells.toList with
   |some ls=>if ls.length==i.size then some ls else none
   |none=>none
  |none=>none
 |none=>none
def Wq (P:Program)(t:TypeId):Option Nat:=(P.info? t).map (·.size)
def ct (P:Program)(t:TypeId):Option Nat:=(P.info? t).map (·.bytes)
def ej (P:Program)(t:TypeId):Option Bool:=
 match P.underlying t with
 |some (.struct _)=>some true
 |some (.array _ _)=>some true
 |some _=>some false
 |none=>none
def Q3 (P:Program)(t:TypeId):Option Bool:=
 match P.info? t with
 |some i=>match i.zero with
  |some (.agg _)=>some true
  |some v=>if v.oneCell' then some false else none
  |none=>none
 |none=>none
def Xz:Operand->Option Vs
 | .tmp t=>some (.t t)
 | .const v=>match E7 v with
   |some l=>some (.c l)
   |none=>none
 | .func f=>if Nat.blt f aM then some (.c (.one (.fn f [])))else none
 | .global _=>none
def Pu (a:Array Operand):Option (List Vs):=Xv Xz a.toList
def Se:Option Operand->Option (List Vs)
 |none=>some []
 |some x=>match Xz x with
  |some y=>some [y]
  |none=>none
def jh (P:Program)(t:TypeId):Option (Nat×IntKind):=
 match P.underlying t with
 |some (.array n e)=>match P.underlying e,Wq P e with
  |some (.int k),some 1=>some (n,k)
  |_,_=>none
 |_=>none
def XP (P:Program)(b:Builtin)(ts:Array TypeId):Option cH:=
 match b with
 | .len=>match ts[0]? with
   |some t=>match P.underlying t with
    |some (.slice _)=>some .len
    |some (.array n _)=>some (.Cn n)
    |some (.map _ _)=>some .OP
    |_=>none
   |none=>none
 | .append=>match ts.toList with
   |[t,u]=>if t==u then
      match P.underlying t with
      |some (.slice e)=>match zeroOf P e,ct P e with
       |some z,some b=>if 0<z.length then some (.append e z.length b)else none
       |_,_=>none
      |_=>none
    else none
   |_=>none
 | .copy=>match ts.toList with
   |[t,u]=>if t==u then
      match P.underlying t with
      |some (.slice e)=>match Wq P e with
       |some (n+1)=>some (.copy (n+1))
       |_=>none
      |_=>none
    else none
   |_=>none
 | .clear=>match ts.toList with
   |[t]=>match P.underlying t with
    |some (.slice e)=>match zeroOf P e with
     |some z=>if 0<z.length then some (.clear z)else none
     |none=>none
    |_=>none
   |_=>none
 | .max=>some .max
 | .min=>some .min
 |_=>none
def XU (P:Program)(o:Op):Option (cH×List Vs):=
 match o with
 | .move x| .assign x=>match Xz x with
   |some x=>some (.move,[x])
   |none=>none
 | .nilCheck x=>match Xz x with
   |some x=>some (.nilCheck,[x])
   |none=>none
 | .pick c a b=>match Xz c,Xz a,Xz b with
   |some c,some a,some b=>some (.pick,[c,a,b])
   |_,_,_=>none
 | .box t x=>match Xz x with
   |some x=>some (.box t,[x])
   |none=>none
 | .alloc t=>match zeroOf P t with
   |some z=>some (.alloc t z,[])
   |none=>none
 | .build t parts=>
   match zeroOf P t,Xv (fun x=>Xz x.2) parts.toList with
   |some z,some xs=>
    match P.underlying t with
    |some (.struct fs)=>
     match Xv (fun f:Field=>match Wq P f.type with |some s=>some (f.offset,s)|none=>none) fs.toList with
     |some places=>match Xv (fun x:Nat×Operand=>places[x.1]?) parts.toList with
      |some pl=>some (.build z pl,xs)
      |none=>none
     |none=>none
    |some (.array _ e)=>match Wq P e with
     |some s=>some (.build z (parts.toList.map fun x=>(x.1*s,s)),xs)
     |none=>none
    |_=>none
   |_,_=>none
 | .buildSlice t len parts=>
   match P.underlying t with
   |some (.slice e)=>
    match zeroOf P e,Xv (fun x=>Xz x.2) parts.toList with
    |some z,some xs=>if 0<z.length&&Nat.ble (len*z.length) 16777216 then some (.buildSlice e z len (parts.toList.map (·.1)),xs)else none
    |_,_=>none
   |_=>none
 | .load t x=>match ej P t,Wq P t,Xz x with
   |some a,some s,some x=>some (.load a s,[x])
   |_,_,_=>none
 | .store t a x=>match Wq P t,Xz a,Xz x with
   |some s,some a,some x=>some (.store s,[a,x])
   |_,_,_=>none
 | .binOp op t x y _=>
   match Xz x,Xz y with
   |some x,some y=>
    match P.underlying t with
    |some (.int _)=>some (.bin op,[x,y])
    |some .bool=>match op with
     | .eql=>some (.Ar false,[x,y])
     | .neq=>some (.Ar true,[x,y])
     |_=>none
    |some (.slice _)=>match op with
     | .eql=>some (.ei false,[x,y])
     | .neq=>some (.ei true,[x,y])
     |_=>none
    |some (.array n e)=>match P.underlying e,Wq P e,P.eqGuardType P.depth t with
     |some (.int k),some 1,false=>match op with
      | .eql=>some (.aO false k n,[x,y])
      | .neq=>some (.aO true k n,[x,y])
      |_=>none
     |_,_,_=>none
    |_=>none
   |_,_=>none
 | .unOp op _ x=>match Xz x with
   |some x=>some (.un op,[x])
   |none=>none
 | .convert s d x=>match P.underlying s,P.underlying d,Xz x with
   |some _,some (.int k),some x=>some (.conv k,[x])
   |_,_,_=>none
 | .makeFunc (.func f) first caps=>if first.isEmpty then
   match Pu caps with
   |some cs=>if Nat.blt f aM then some (.makeFunc f,cs)else none
   |none=>none
   else if caps.isEmpty then
    match Pu first with
    |some cs=>some (.makeFunc (f+aM),cs)
    |none=>none
   else none
 | .makeSlice t l c=>
   match P.underlying t with
   |some (.slice e)=>match zeroOf P e,ct P e,Xz l,Xz c with
    |some z,some b,some l,some c=>if 0<z.length then some (.makeSlice e z b,[l,c])else none
    |_,_,_,_=>none
   |_=>none
 | .slice t x lo hi none=>
   match P.underlying t with
   |some (.slice e)=>match Xz x,Se lo,Se hi,Wq P e with
    |some x,some l,some h,some s=>some (.slice s lo.isSome hi.isSome,x::(l++h))
    |_,_,_,_=>none
   |_=>none
 | .slice t x (some lo) (some hi) (some mx)=>
   match P.underlying t with
   |some (.slice e)=>match Xz x,Xz lo,Xz hi,Xz mx,Wq P e with
    |some x,some l,some h,some m,some _=>some (.slice3,[x,l,h,m])
    |_,_,_,_,_=>none
   |_=>none
 | .fieldAddr s x f=>match P.underlying s with
   |some (.struct fs)=>match fs[f]? with
    |some fl=>match Wq P fl.type,Xz x with
     |some (_+1),some x=>some (.fieldAddr fl.offset,[x])
     |_,_=>none
    |none=>none
   |_=>none
 | .field s x f=>match P.underlying s with
   |some (.struct fs)=>match fs[f]? with
    |some fl=>match ej P fl.type,Wq P fl.type,Xz x with
     |some a,some sz,some x=>some (.field a sz fl.offset,[x])
     |_,_,_=>none
    |none=>none
   |_=>none
 | .indexAddr t x i=>match P.underlying t,Xz x,Xz i with
   |some (.slice e),some x,some i=>match Wq P e with
    |some s=>some (.P1 s,[x,i])
    |none=>none
   |some (.array n e),some x,some i=>match Wq P e with
    |some s=>some (.jo n s,[x,i])
    |none=>none
   |_,_,_=>none
 | .index t x i=>match P.underlying t,Xz x,Xz i with
   |some .string,some x,some i=>some (.TI,[x,i])
   |some (.array n e),some x,some i=>match ej P e,Wq P e with
    |some a,some s=>some (.jn n a s,[x,i])
    |_,_=>none
   |_,_,_=>none
 | .makeMap t none=>match P.underlying t with
   |some (.map k e)=>match jh P k,Q3 P e with
    |some (n,_),some a=>some (.makeMap n a,[])
    |_,_=>none
   |_=>none
 | .lookup t x i ok=>match P.underlying t with
   |some (.map k e)=>match jh P k,Q3 P e,zeroOf P e,Xz x,Xz i with
    |some (n,kk),some a,some z,some x,some i=>some (.lookup n kk a z ok,[x,i])
    |_,_,_,_,_=>none
   |_=>none
 | .mapUpdate t m k x=>match P.underlying t with
   |some (.map kt e)=>match jh P kt,Q3 P e,Wq P e,Xz m,Xz k,Xz x with
    |some (n,kk),some a,some s,some m,some k,some x=>some (.mapUpdate n kk a s,[m,k,x])
    |_,_,_,_,_,_=>none
   |_=>none
 | .extract x n=>match Xz x with
   |some x=>some (.extract n,[x])
   |none=>none
 | .call c=>match Pu c.args with
   |some xs=>
    match c.callee with
    | .builtin b=>match XP P b c.argTypes with
      |some op=>some (op,xs)
      |none=>none
    | .value (.func f)=>some (.call f,xs)
    | .value x=>match Xz x with
      |some x=>some (.Sd,x::xs)
      |none=>none
    | .invoke _ _=>none
   |none=>none
 |_=>none
def Od (nt:Nat):Option Nat->Bool
 |none=>true
 |some d=>Nat.blt d nt
def R9 (ops:List Oper):Option (Nat×Bool)->Option (Option (Nat×Bool))
 |none=>some none
 |some (j,want)=>match ops[j]? with
  |some g=>match g.dst with
   |some d=>some (some (d,want))
   |none=>none
  |none=>none
def UL (P:Program)(nt:Nat)(ops:List Oper)(o:Oper):Option Xy:=
 match XU P o.op with
 |some (op,args)=>match R9 ops o.guard with
  |some g=>if Od nt o.dst then some ⟨o.dst,op,args,g,(o.after.toList.filter (Region.binds .any)).map (·.on)⟩else none
  |none=>none
 |none=>none
def Vs.tmp:Vs->P'
 | .t n=>[n]
 | .c _=>[]
def Xy.tmps (o:Xy):P':=
 o.args.flatMap Vs.tmp++(match o.guard with |some (t,_)=>[t]|none=>[])
def jz (ops:List Xy):Bool:=
 ops.zipIdx.all fun(o,i)=>
  o.after.all (fun j=>Nat.blt j i)&&
  ops.zipIdx.all fun(q,j)=>i==j||
   match q.dst with
   |none=>true
   |some d=>(match o.dst with |some e=>d !=e|none=>true)&&
    (!(o.tmps.contains d)||o.after.contains j||q.after.contains i)
def gq (done:List Xy)(j:Nat):P':=
 match done[j]? with
 |some p=>p.after
 |none=>[]
def dd:P'->P'
 |[]=>[]
 |x::xs=>bif xs.contains x then dd xs else x::dd xs
def WN:List Xy->List Xy->List Xy
 |done,[]=>done
 |done,o::os=>WN (done++[{o with after:=dd (o.after++o.after.flatMap (gq done))}]) os
theorem uX (x:Nat):∀l:P',x∈dd l↔x∈l
 |[]=>by simp[dd]
 |y::l=>by
  have a:=uX x l;simp only[dd]
  grind
def Xy.bare (o:Xy):Xy:={o with after:=[]}
def XO (P:Program)(nt:Nat):Code->Option XH
 | .skip=>some .skip
 | .region _ ops draws=>
   match Xv (UL P nt ops.toList) ops.toList with
   |some os=>if draws then(if jz (WN [] os)then some (.region true (WN [] os))else none)else some (.region false (os.map Xy.bare))
   |none=>none
 | .seq a b=>match XO P nt a,XO P nt b with
   |some a,some b=>some (.seq a b)
   |_,_=>none
 | .cond c a b=>match Xz c,XO P nt a,XO P nt b with
   |some c,some a,some b=>some (.cond c a b)
   |_,_,_=>none
 | .block id c=>match XO P nt c with
   |some c=>some (.block id c)
   |none=>none
 | .loop c=>match XO P nt c with
   |some c=>some (.loop c)
   |none=>none
 | .exit id=>some (.exit id)
 | .ret=>some .ret
 | .scope c=>match XO P nt c with
   |some c=>some (.scope c)
   |none=>none
 | .label _=>some .skip
 | .rangeFunc f vars pre body=>match Xz f,XO P nt pre,XO P nt body with
   |some f,some pre,some body=>if vars.toList.all (fun v=>Nat.blt v nt)then some (.Og f vars.toList pre body)else none
   |_,_,_=>none
 |_=>none
def R3 (P:Program):ResultVar->Option (Nat×Option (Bool×Nat))
 | .tmp t=>some (t,none)
 | .cell a t=>match ej P t,Wq P t with
   |some g,some s=>some (a,some (g,s))
   |_,_=>none
def sT (P:Program)(fn:Func):Option Vl:=
 if fn.name == "runtime.NumGoroutine" then none else
 match fn.body with
 |some c=>match XO P fn.ntmps c,Xv (R3 P) fn.results.toList with
  |some c,some rs=>some ⟨fn.ntmps,rs,c⟩
  |_,_=>none
 |none=>none
def XH.erase:XH->XH
 | .seq a b=>.seq a.erase b.erase
 | .cond c a b=>.cond c a.erase b.erase
 | .block id c=>.block id c.erase
 | .loop c=>.loop c.erase
 | .VM _ c=>c.erase
 | .scope c=>.scope c.erase
 | .Og f vs a b=>.Og f vs a.erase b.erase
 | .RP pre suf=>bif Si pre.length suf then .region true (pre++suf)else .VM [] .skip
 |c=>c
end Go.Ev
namespace Go
abbrev N':=List Go.Ev.PL
abbrev I':=List (List Go.Ev.PL)
abbrev V':=List Go.Ev.Xx
abbrev X':=List Go.Ev.DV
abbrev Y':=List Go.Ev.DL
abbrev K':=List (List Go.Ev.DL)
abbrev F':=List Go.Ev.Xy
abbrev z':=List (List (List Go.Ev.PL))
end Go
namespace Go
abbrev LA (n:Nat):Ev.PL:=.int .i64 (.ofNat n)
abbrev LB (n:Nat):Ev.DV:=.one (.p (.int .i64 (.ofNat n)))
abbrev LC (n:Nat):Ev.PL:=.int .u64 (.ofNat n)
abbrev LD (n:Nat):Ev.DV:=.one (.p (.int .u64 (.ofNat n)))
end Go
