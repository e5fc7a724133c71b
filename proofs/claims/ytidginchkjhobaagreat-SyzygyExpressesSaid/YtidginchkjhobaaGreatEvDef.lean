/- Definitions: abstract values, a small instruction set with all sizes resolved, and a deterministic interpreter over abstract values. Nothing is proved here. -/
import Derived.Test.YtidginchkjhobaaGreatZ
import Derived.WalkKit
namespace Go.Ev
inductive PL where
 |bool (b:Bool)
 |int (k:IntKind) (n:Int)
 |Xp
 |Xl (es:List (List PL))
 |ref (cs:List PL)
 |fn (f:Nat) (caps:List PL)
 |str (bs:P')
 |Qx
inductive DL where
 |p (l:PL)
 |own (id XW off len:Nat)
 |ptr (id XW i off:Nat)
 |fn (f:Nat) (caps:List DL)
 |mp (id:Nat)
inductive PV where
 |one (l:PL)
 |agg (cs:List PL)
 |Wd (vs:List PV)
inductive DV where
 |one (l:DL)
 |agg (cs:List DL)
 |Wd (vs:List DV)
structure Xx where
 fz:Bool
 XW:Nat
 sz:Nat
 ch:List (List DL)
 mp:Bool
 ty:Nat
inductive VB where
 |t (n:Nat)
 |c (v:PV)
inductive dK where
 |move
 |nilCheck
 |pick
 |box (t:Nat)
 |alloc (t:Nat) (z:List PL)
 |build (z:List PL) (places:List (Nat×Nat))
 |buildSlice (e:Nat) (z:List PL) (len:Nat) (places:P')
 |load (agg:Bool) (sz:Nat)
 |store (sz:Nat)
 |bin (op:BinOp)
 |B8 (neq:Bool)
 |fD (neq:Bool)
 |bE (neq:Bool) (k:IntKind) (len:Nat)
 |un (op:UnOp)
 |conv (k:IntKind)
 |fieldAddr (off:Nat)
 |Ov (sz:Nat)
 |kx (len sz:Nat)
 |TV
 |ku (len:Nat) (agg:Bool) (sz:Nat)
 |field (agg:Bool) (sz off:Nat)
 |slice (sz:Nat) (lo hi:Bool)
 |extract (n:Nat)
 |len
 |Eo (n:Nat)
 |append (e sz bytes:Nat)
 |makeSlice (e:Nat) (z:List PL) (bytes:Nat)
 |max
 |min
 |copy (sz:Nat)
 |makeMap (VY:Nat) (agg:Bool)
 |lookup (VY:Nat) (k:IntKind) (agg:Bool) (z:List PL) (ok:Bool)
 |mapUpdate (VY:Nat) (k:IntKind) (agg:Bool) (vsz:Nat)
 |Ng
 |makeFunc (f:Nat)
 |call (f:Nat)
 |Sw
 |clear (z:List PL)
 |slice3
structure Xz where
 dst:Option Nat
 op:dK
 args:List VB
 guard:Option (Nat×Bool)
 after:P'
inductive XN where
 |skip
 |region (draws:Bool) (ops:List Xz)
 |R2 (pre suf:List Xz)
 |seq (a b:XN)
 |cond (c:VB) (a b:XN)
 |block (id:Nat) (c:XN)
 |loop (c:XN)
 |VS (ks:P') (c:XN)
 |scope (c:XN)
 |exit (id:Nat)
 |ret
 |OJ (f:VB) (vars:P') (pre body:XN)
def Q {α:Type}(a:α){b:α}(_h:a=b:=by conv=>lhs;reduce):α:=b
abbrev cI (n:Nat):PL:=.int .i64 (.ofNat n)
abbrev cN (n:Nat):PL:=.int .i64 (.negSucc n)
abbrev cW (n:Nat):PL:=.int .u32 (.ofNat n)
abbrev cQ (n:Nat):PL:=.int .u64 (.ofNat n)
abbrev cB (n:Nat):PL:=.int .u8 (.ofNat n)
abbrev cC (n:Nat):VB:=.c (.one (.int .i64 (.ofNat n)))
abbrev cF:VB:=.c (.one (.bool false))
abbrev cT:VB:=.c (.one (.bool true))
abbrev oP (d:Nat)(op:dK)(a:List VB):Xz:=⟨some d,op,a,none,[]⟩
abbrev oA (d:Nat)(op:dK)(a:List VB)(af:P'):Xz:=⟨some d,op,a,none,af⟩
abbrev oG (d:Nat)(op:dK)(a:List VB)(g:Nat)(b:Bool)(af:P'):Xz:=⟨some d,op,a,some (g,b),af⟩
abbrev oN (op:dK)(a:List VB)(af:P'):Xz:=⟨none,op,a,none,af⟩
abbrev mV (d t:Nat):Xz:=⟨some d,.move,[.t t],none,[]⟩
abbrev mA (d t:Nat)(af:P'):Xz:=⟨some d,.move,[.t t],none,af⟩
abbrev mC (d:Nat)(c:VB):Xz:=⟨some d,.move,[c],none,[]⟩
abbrev rG:List Xz->XN:=.region false
abbrev rD:List Xz->XN:=.region true
abbrev sQ:XN->XN->XN:=.seq
structure Vu where
 ntmps:Nat
 results:List (Nat×Option (Bool×Nat))
 body:XN
def bF:Nat:=1000
def hJ (f:Nat):Nat:=bif Nat.blt f bF then f else f-bF
def xy {α:Type}(f:Nat)(vs caps:List α):List α:=bif Nat.blt f bF then vs++caps else caps++vs
def qv:PV->DV
 | .one l=>.one (.p l)
 | .agg cs=>.agg (cs.map .p)
 | .Wd _=>.Wd []
def inj:PV->DV
 | .one l=>.one (.p l)
 | .agg cs=>.agg (cs.map .p)
 | .Wd vs=>.Wd (vs.map qv)
def DV.cells:DV->Option (List DL)
 | .one l=>some [l]
 | .agg cs=>some cs
 | .Wd _=>none
abbrev HF:=Nat->Option Xx
def Xw {α β:Type}(f:α->Option β):List α->Option (List β)
 |[]=>some []
 |x::xs=>match f x with
  |none=>none
  |some y=>match Xw f xs with
   |none=>none
   |some ys=>some (y::ys)
def XG:Nat->HF->DL->Option PL
 |_,_,.p l=>some l
 |0,_,_=>none
 |n+1,h,.own id XW off len=>
  match h id with
  |some b=>bif Nat.beq b.XW XW&& !b.mp&&Nat.ble (off+len) b.ch.length then
    match Xw (Xw (XG n h)) ((b.ch.drop off).take len)with
    |some es=>some (.Xl es)
    |none=>none
   else none
  |none=>none
 |n+1,h,.ptr id XW i off=>
  match h id with
  |some b=>bif Nat.beq b.XW XW&& !b.mp then
    match b.ch[i]? with
    |some c=>match Xw (XG n h) (c.drop off)with
     |some cs=>some (.ref cs)
     |none=>none
    |none=>none
   else none
  |none=>none
 |n+1,h,.fn f caps=>match Xw (XG n h) caps with
  |some cs=>some (.fn f cs)
  |none=>none
 |_+1,_,.mp _=>none
def Vt:Nat->HF->DL->P'
 |_,_,.p _=>[]
 |0,_,_=>[]
 |n+1,h,.own id _ off len=>
  match h id with
  |some b=>id::((b.ch.drop off).take len).flatMap fun c=>c.flatMap (Vt n h)
  |none=>[]
 |n+1,h,.ptr id _ i off=>
  match h id with
  |some b=>match b.ch[i]? with
   |some c=>id::(c.drop off).flatMap (Vt n h)
   |none=>[]
  |none=>[]
 |n+1,h,.fn _ caps=>caps.flatMap (Vt n h)
 |_+1,_,.mp _=>[]
def WQ:Nat:=6
def XX (h:HF):DV->Option PV
 | .one l=>match XG WQ h l with
   |some l=>some (.one l)
   |none=>none
 | .agg cs=>match Xw (XG WQ h) cs with
   |some cs=>some (.agg cs)
   |none=>none
 | .Wd _=>none
def Mr (h:HF):DV->Option PV
 | .Wd vs=>match Xw (XX h) vs with
   |some vs=>some (.Wd vs)
   |none=>none
 |v=>XX h v
def Rj (h:HF):DV->P'
 | .one l=>Vt WQ h l
 | .agg cs=>cs.flatMap (Vt WQ h)
 | .Wd _=>[]
def PL.scalar:PL->Bool
 | .bool _=>true
 | .int _ _=>true
 | .Xp=>true
 | .str _=>true
 | .Qx=>true
 |_=>false
def PV.NV:PV->Bool
 | .one l=>l.scalar
 | .agg cs=>cs.all PL.scalar
 | .Wd vs=>vs.isEmpty
def PV.scalar:PV->Bool
 | .Wd vs=>vs.all PV.NV
 |v=>v.NV
structure Vk where
 val:DV
 al:List Xx
 wr:List (Nat×Xx)
 rd:P'
def Vk.pure (v:DV):Vk:=⟨v,[],[],[]⟩
inductive Mode where
 |pure
 |heap
 |view
 |fresh
structure Xa where
 mode:Nat->Mode
 pure:Nat->List PV->Option PV
 heap:Nat->List DV->List Xx->Option (DV×List Xx)
 iter:Nat->List PL->Option (List (List PV))
def Eu:IntKind->Nat
 | .i8=>0
 | .i16=>1
 | .i32=>2
 | .i64=>3
 | .u8=>4
 | .u16=>5
 | .u32=>6
 | .u64=>7
def gG (a b:IntKind):Bool:=Nat.beq (Eu a) (Eu b)
def Ey:IntKind->Nat
 | .i8=>8
 | .i16=>16
 | .i32=>32
 | .i64=>64
 | .u8=>8
 | .u16=>16
 | .u32=>32
 | .u64=>64
def QL:IntKind->Nat
 | .i8=>256
 | .i16=>65536
 | .i32=>4294967296
 | .i64=>18446744073709551616
 | .u8=>256
 | .u16=>65536
 | .u32=>4294967296
 | .u64=>18446744073709551616
def qm:IntKind->Bool
 | .i8=>true
 | .i16=>true
 | .i32=>true
 | .i64=>true
 |_=>false
def W4 (k:IntKind):Int->Nat
 | .ofNat m=>m%QL k
 | .negSucc m=>(QL k-1)-m%QL k
def U6 (k:IntKind)(r:Nat):Int:=
 bif qm k&&Nat.ble (QL k / 2) r then Int.negSucc (QL k-r-1)else Int.ofNat r
def Xd (k:IntKind)(n:Int):Int:=U6 k (W4 k n)
def S6:Int->Int->Bool
 | .ofNat a,.ofNat b=>Nat.blt a b
 | .ofNat _,.negSucc _=>false
 | .negSucc _,.ofNat _=>true
 | .negSucc a,.negSucc b=>Nat.blt b a
def Nr:Int->Int->Bool
 | .ofNat a,.ofNat b=>Nat.beq a b
 | .negSucc a,.negSucc b=>Nat.beq a b
 |_,_=>false
def yY (a b:Int):Bool:= !S6 b a
def Gx (a:Int)(n:Nat):Int:=
 match a with
 | .ofNat m=>.ofNat (m / 2^n)
 | .negSucc m=>.negSucc (m / 2^n)
def S5 (k:IntKind)(n:Int):Option DL:=some (.p (.int k n))
def SS (b:Bool):Option DL:=some (.p (.bool b))
def bD (k:IntKind)(a:Int):Int->Option DL
 | .ofNat n=>S5 k (Xd k (a*Int.ofNat (2^(Nat.min n (Ey k)))))
 | .negSucc _=>none
def Pc (k:IntKind)(a:Int):Int->Option DL
 | .ofNat n=>S5 k (Gx a (Nat.min n (Ey k)))
 | .negSucc _=>none
def U5 (k:IntKind)(a b:Int):Option DL:=bif Nr b 0 then none else S5 k (Xd k (Int.tdiv a b))
def TN (k:IntKind)(a b:Int):Option DL:=bif Nr b 0 then none else S5 k (Int.tmod a b)
def V6 (k k':IntKind)(r:Option DL):Option DL:=bif gG k k' then r else none
def WK (op:BinOp)(k k':IntKind)(a b:Int):Option DL:=
 match op with
 | .shl=>bD k a b
 | .shr=>Pc k a b
 | .add=>V6 k k' (S5 k (Xd k (a+b)))
 | .sub=>V6 k k' (S5 k (Xd k (a-b)))
 | .mul=>V6 k k' (S5 k (Xd k (a*b)))
 | .quo=>V6 k k' (U5 k a b)
 | .rem=>V6 k k' (TN k a b)
 | .and=>V6 k k' (S5 k (U6 k (Nat.land (W4 k a) (W4 k b))))
 | .or=>V6 k k' (S5 k (U6 k (Nat.lor (W4 k a) (W4 k b))))
 | .xor=>V6 k k' (S5 k (U6 k (Nat.xor (W4 k a) (W4 k b))))
 | .andNot=>V6 k k' (S5 k (U6 k (Nat.land (W4 k a) (Nat.xor (QL k-1) (W4 k b)))))
 | .eql=>V6 k k' (SS (Nr a b))
 | .neq=>V6 k k' (SS (!Nr a b))
 | .lss=>V6 k k' (SS (S6 a b))
 | .leq=>V6 k k' (SS (yY a b))
 | .gtr=>V6 k k' (SS (S6 b a))
 | .geq=>V6 k k' (SS (yY b a))
def DL.isNil:DL->Option Bool
 | .p .Xp=>some true
 | .p (.Xl _)=>some false
 | .own _ _ _ _=>some false
 |_=>none
def Wl (k:IntKind):List DL->List DL->Option Bool
 |[],[]=>some true
 | .p (.int k1 a)::xs,.p (.int k2 b)::ys=>
   bif gG k1 k&&gG k2 k then
    match Wl k xs ys with
    |some r=>some (Nr a b&&r)
    |none=>none
   else none
 |_,_=>none
def J4 (op:UnOp):DL->Option DL
 | .p (.int k n)=>
   match op with
   | .neg=>some (.p (.int k (Xd k (0-n))))
   | .xor=>some (.p (.int k (U6 k (Nat.xor (QL k-1) (W4 k n)))))
   |_=>none
 | .p (.bool b)=>
   match op with
   | .not=>some (.p (.bool (!b)))
   |_=>none
 |_=>none
def OF:List DL->List (Nat×Nat)->List DV->Option (List DL)
 |cs,[],[]=>some cs
 |cs,(off,sz)::ps,v::vs=>
  match v.cells with
  |some ds=>bif Nat.beq ds.length sz&&Nat.ble (off+sz) cs.length then OF (cs.take off++ds++cs.drop (off+sz)) ps vs else none
  |none=>none
 |_,_,_=>none
def OG (sz:Nat):List (List DL)->P'->List DV->Option (List (List DL))
 |cs,[],[]=>some cs
 |cs,i::ps,v::vs=>
  match v.cells with
  |some ds=>bif Nat.beq ds.length sz&&Nat.blt i cs.length then OG sz (cs.set i ds) ps vs else none
  |none=>none
 |_,_,_=>none
def maxD (pickNew:Int->Int->Bool):IntKind->Int->List DV->Option DV
 |k,a,[]=>some (.one (.p (.int k a)))
 |k,a,.one (.p (.int k' b))::vs=>bif gG k k' then maxD pickNew k (bif pickNew a b then b else a) vs else none
 |_,_,_=>none
def WH (h:HF):DL->Option (List (List DL)×P')
 | .p .Xp=>some ([],[])
 | .p (.Xl es)=>some (es.map (·.map .p),[])
 | .own id XW off len=>
   match h id with
   |some b=>bif Nat.beq b.XW XW&& !b.mp&&Nat.ble (off+len) b.ch.length then some ((b.ch.drop off).take len,[id])else none
   |none=>none
 |_=>none
def Wi:List DL->Bool
 |[]=>true
 | .p _::cs=>Wi cs
 |_::_=>false
def SP (k:IntKind)(VY:Nat)(key:List DL):List (List DL)->Nat->Option (Option (Nat×List DL))
 |[],_=>some none
 |c::cs,i=>
  match Wl k key (c.take VY)with
  |some true=>some (some (i,c))
  |some false=>SP k VY key cs (i+1)
  |none=>none
def zK (agg:Bool)(cs:List DL):Option DV:=
 bif agg then some (.agg cs)else match cs with
  |[c]=>some (.one c)
  |_=>none
def lim:Nat:=140737488355328
def ba:List DV->Option Vk
 |[x]=>some (.pure x)
 |_=>none
def Re:List DV->Option Vk
 |[.one (.ptr id XW i off)]=>some (.pure (.one (.ptr id XW i off)))
 |[.one (.p (.ref cs))]=>some (.pure (.one (.p (.ref cs))))
 |[.one (.fn f cs)]=>some (.pure (.one (.fn f cs)))
 |[.one (.p (.fn f cs))]=>some (.pure (.one (.p (.fn f cs))))
 |_=>none
def aZ:List DV->Option Vk
 |[.one (.p (.bool c)),a,b]=>some (.pure (bif c then a else b))
 |_=>none
def cD (t n:Nat):List DV->Option Vk
 |[x]=>match x.cells with
  |some cs=>some ⟨.one (.ptr n 0 0 0),[⟨false,0,cs.length,[cs],false,t⟩],[],[]⟩
  |none=>none
 |_=>none
def QR (t:Nat)(z:List PL)(n:Nat):List DV->Option Vk
 |[]=>some ⟨.one (.ptr n 0 0 0),[⟨false,0,z.length,[z.map .p],false,t⟩],[],[]⟩
 |_=>none
def Oi (z:List PL)(places:List (Nat×Nat))(vs:List DV):Option Vk:=
 match OF (z.map .p) places vs with
 |some cs=>some (.pure (.agg cs))
 |none=>none
def Uf (e:Nat)(z:List PL)(len:Nat)(places:P')(n:Nat)(vs:List DV):Option Vk:=
 match OG z.length (List.replicate len (z.map .p)) places vs with
 |some cs=>some ⟨.one (.own n 0 0 len),[⟨false,0,z.length,cs,false,e⟩],[],[]⟩
 |none=>none
def Sr (agg:Bool)(sz:Nat)(cs:List DL):Option DV:=
 bif agg then(bif Nat.ble sz cs.length then some (.agg (cs.take sz))else none)
 else match cs with
  |c::_=>some (.one c)
  |[]=>none
def QY (h:HF)(id XW i:Nat):Option (List DL):=
 match h id with
 |some b=>bif Nat.beq b.XW XW&& !b.mp then b.ch[i]? else none
 |none=>none
def Of (agg:Bool)(sz:Nat)(h:HF):List DV->Option Vk
 |[.one (.p (.ref cs))]=>match Sr agg sz (cs.map .p)with
  |some v=>some (.pure v)
  |none=>none
 |[.one (.ptr id XW i off)]=>match QY h id XW i with
  |some c=>bif Nat.ble off c.length then
    match Sr agg sz (c.drop off)with
    |some v=>some ⟨v,[],[],[id]⟩
    |none=>none
   else none
  |none=>none
 |_=>none
def P4 (base sz id XW i off:Nat)(b:Xx)(cs:List DL):Option Vk:=
 bif Nat.beq b.XW XW&& !b.mp&& !b.fz&&Nat.beq cs.length sz&&(Nat.ble base id||Wi cs)then
  match b.ch[i]? with
  |some c=>bif Nat.ble (off+sz) c.length then some ⟨.Wd [],[],[(id,{b with ch:=b.ch.set i (c.take off++cs++c.drop (off+sz))})],[id]⟩else none
  |none=>none
 else none
def QN (base sz:Nat)(h:HF):List DV->Option Vk
 |[.one (.ptr id XW i off),x]=>match h id with
  |some b=>match x.cells with
   |some cs=>P4 base sz id XW i off b cs
   |none=>none
  |none=>none
 |_=>none
def jJ (op:BinOp):List DV->Option Vk
 |[.one (.p (.int k a)),.one (.p (.int k' b))]=>match WK op k k' a b with
  |some d=>some (.pure (.one d))
  |none=>none
 |_=>none
def be (neq:Bool):List DV->Option Vk
 |[.one (.p (.bool a)),.one (.p (.bool b))]=>some (.pure (.one (.p (.bool ((a==b)!=neq)))))
 |_=>none
def wE (neq:Bool)(x y:DL):Option Bool:=
 match x.isNil,y.isNil with
 |some true,some b=>some (b !=neq)
 |some false,some true=>some neq
 |_,_=>none
def Uz (neq:Bool):List DV->Option Vk
 |[.one x,.one y]=>match wE neq x y with
  |some b=>some (.pure (.one (.p (.bool b))))
  |none=>none
 |_=>none
def US (neq:Bool)(k:IntKind)(len:Nat):List DV->Option Vk
 |[.agg xs,.agg ys]=>bif Nat.beq xs.length len then
   match Wl k xs ys with
   |some b=>some (.pure (.one (.p (.bool (b !=neq)))))
   |none=>none
  else none
 |_=>none
def jI (op:UnOp):List DV->Option Vk
 |[.one x]=>match J4 op x with
  |some d=>some (.pure (.one d))
  |none=>none
 |_=>none
def bd (k:IntKind):List DV->Option Vk
 |[.one (.p (.int _ n))]=>some (.pure (.one (.p (.int k (Xd k n)))))
 |_=>none
def UE (off:Nat):List DV->Option Vk
 |[.one (.p (.ref cs))]=>bif Nat.ble off cs.length then some (.pure (.one (.p (.ref (cs.drop off)))))else none
 |[.one (.ptr id XW i o)]=>some (.pure (.one (.ptr id XW i (o+off))))
 |_=>none
def VX (sz:Nat)(h:HF):List DV->Option Vk
 |[.one (.p (.Xl es)),.one (.p (.int _ (.ofNat i)))]=>match es[i]? with
  |some c=>bif Nat.beq c.length sz then some (.pure (.one (.p (.ref c))))else none
  |none=>none
 |[.one (.own id XW off len),.one (.p (.int _ (.ofNat i)))]=>match h id with
  |some b=>bif Nat.beq b.sz sz&&Nat.blt i len then some ⟨.one (.ptr id XW (off+i) 0),[],[],[id]⟩else none
  |none=>none
 |_=>none
def RE (len sz:Nat):List DV->Option Vk
 |[.one (.p (.ref cs)),.one (.p (.int _ (.ofNat i)))]=>
  bif Nat.blt i len&&Nat.ble (i*sz) cs.length then some (.pure (.one (.p (.ref (cs.drop (i*sz))))))else none
 |[.one (.ptr id XW j o),.one (.p (.int _ (.ofNat i)))]=>
  bif Nat.blt i len then some (.pure (.one (.ptr id XW j (o+i*sz))))else none
 |_=>none
def SL (len:Nat)(agg:Bool)(sz:Nat):List DV->Option Vk
 |[.agg cs,.one (.p (.int _ (.ofNat i)))]=>bif Nat.blt i len&&Nat.ble (i*sz) cs.length then
   match Sr agg sz (cs.drop (i*sz))with
   |some v=>some (.pure v)
   |none=>none
  else none
 |_=>none
def Uo:List DV->Option Vk
 |[.one (.p (.str bs)),.one (.p (.int _ (.ofNat i)))]=>match bs[i]? with
  |some b=>some (.pure (.one (.p (.int .u8 b))))
  |none=>none
 |_=>none
def Og (agg:Bool)(sz off:Nat):List DV->Option Vk
 |[.agg cs]=>bif Nat.ble off cs.length then
   match Sr agg sz (cs.drop off)with
   |some v=>some (.pure v)
   |none=>none
  else none
 |_=>none
def QF (sz:Nat):Option (List PL)->Bool
 |some c=>Nat.beq c.length sz
 |none=>true
def WN (sz:Nat)(h:HF)(x:DL)(l:Nat)(u:Option Nat):Option (DL×P'):=
 match x with
 | .p (.Xl es)=>bif Nat.ble l (u.getD es.length)&&Nat.ble (u.getD es.length) es.length&&QF sz es[l]? then some (.p (.Xl ((es.take (u.getD es.length)).drop l)),[])else none
 | .p .Xp=>bif Nat.beq l 0&&Nat.beq (u.getD 0) 0 then some (.p .Xp,[])else none
 | .own id XW off len=>match h id with
   |some b=>bif Nat.ble l (u.getD len)&&(Nat.ble (u.getD len) len||(Nat.beq b.XW XW&& !b.mp&&Nat.beq off 0&&Nat.blt 0 sz&&Nat.ble (u.getD len) b.ch.length))&&Nat.beq b.sz sz then some (.own id XW (off+l) (u.getD len-l),[id])else none
   |none=>none
 |_=>none
def Ub (lo hi:Bool):List DV->Option (DL×Nat×Option Nat)
 |[.one x]=>bif lo||hi then none else some (x,0,none)
 |[.one x,.one (.p (.int _ (.ofNat a)))]=>match lo,hi with
  |true,false=>some (x,a,none)
  |false,true=>some (x,0,some a)
  |_,_=>none
 |[.one x,.one (.p (.int _ (.ofNat a))),.one (.p (.int _ (.ofNat b)))]=>bif lo&&hi then some (x,a,some b)else none
 |_=>none
def QO (sz:Nat)(lo hi:Bool)(h:HF)(vs:List DV):Option Vk:=
 match Ub lo hi vs with
 |some (x,l,u)=>match WN sz h x l u with
  |some (d,rd)=>some ⟨.one d,[],[],rd⟩
  |none=>none
 |none=>none
def Py:List DV->Option Vk
 |[.one (.own _ _ _ len),.one (.p (.int _ (.ofNat a))),.one (.p (.int _ (.ofNat b))),.one (.p (.int _ (.ofNat c)))]=>
  bif Nat.ble a b&&Nat.ble b c&&Nat.ble c len then some (.pure (.one (.p .Qx)))else none
 |_=>none
def Rf (n:Nat):List DV->Option Vk
 |[.Wd vs]=>match vs[n]? with
  |some v=>some (.pure v)
  |none=>none
 |_=>none
def OE:List DV->Option Vk
 |[.one (.p .Xp)]=>some (.pure (.one (.p (.int .i64 (.ofNat 0)))))
 |[.one (.p (.Xl es))]=>some (.pure (.one (.p (.int .i64 (.ofNat es.length)))))
 |[.one (.own _ _ _ len)]=>some (.pure (.one (.p (.int .i64 (.ofNat len)))))
 |_=>none
def bc (n:Nat):List DV->Option Vk
 |[_]=>some (.pure (.one (.p (.int .i64 (.ofNat n)))))
 |_=>none
def W9 (e sz bytes n:Nat)(new:List (List DL))(ids:P'):Option Vk:=
 bif Nat.ble (new.length*bytes) lim&&Nat.ble new.length 9223372036854775807 then
  match new with
  |[]=>some ⟨.one (.p .Xp),[],[],ids⟩
  |_=>some ⟨.one (.own n 0 0 new.length),[⟨false,0,sz,new,false,e⟩],[],ids⟩
 else none
def TE (base e sz bytes id XW len:Nat)(b:Xx)(new:List (List DL))(ids:P'):Option Vk:=
 bif Nat.beq b.XW XW&& !b.mp&& !b.fz&&Nat.beq b.ch.length len&&Nat.beq b.sz sz&&Nat.beq b.ty e&&Nat.ble base id&&Nat.ble ((len+new.length)*bytes) lim&&Nat.ble (len+new.length) 9223372036854775807 then
  some ⟨.one (.own id (XW+1) 0 (len+new.length)),[],[(id,{b with XW:=XW+1,ch:=b.ch++new})],id::ids⟩
 else none
def RQ (base e sz id XW len:Nat)(b:Xx)(new:List (List DL))(ids:P'):Option Vk:=
 bif Nat.beq b.XW XW&& !b.mp&& !b.fz&&Nat.ble (len+new.length) b.ch.length&&Nat.beq b.sz sz&&Nat.beq b.ty e&&Nat.ble base id then
  some ⟨.one (.own id XW 0 (len+new.length)),[],[(id,{b with ch:=b.ch.take len++new++b.ch.drop (len+new.length)})],id::ids⟩
 else none
def Vs (base e sz bytes:Nat)(h:HF)(n:Nat):List DV->Option Vk
 |[.one x,.one y]=>match WH h y with
  |some (new,ids)=>bif new.all (fun c=>Nat.beq c.length sz)then
    match x with
    | .p .Xp=>W9 e sz bytes n new ids
    | .own id XW 0 len=>match h id with
      |some b=>bif Nat.beq b.ch.length len then TE base e sz bytes id XW len b new ids else RQ base e sz id XW len b new ids
      |none=>none
    |_=>none
   else none
  |none=>none
 |_=>none
def UD (e:Nat)(z:List PL)(bytes n:Nat):List DV->Option Vk
 |[.one (.p (.int _ (.ofNat l))),.one (.p (.int _ (.ofNat c)))]=>
  bif Nat.ble l c&&Nat.ble (bytes*c) lim&&Nat.ble c 9223372036854775807 then
   some ⟨.one (.own n 0 0 l),[⟨false,0,z.length,List.replicate l (z.map .p),false,e⟩],[],[]⟩
  else none
 |_=>none
def Qt (pickNew:Int->Int->Bool):List DV->Option Vk
 | .one (.p (.int k a))::vs=>match maxD pickNew k a vs with
   |some v=>some (.pure v)
   |none=>none
 |_=>none
def Nw (base sz id XW off len:Nat)(b:Xx)(new:List (List DL))(ids:P'):Option Vk:=
 bif Nat.beq b.XW XW&& !b.mp&& !b.fz&&Nat.beq b.sz sz&&Nat.ble (off+len) b.ch.length&&new.all (fun c=>Nat.beq c.length sz)&&(Nat.ble base id||new.all Wi)then
  some ⟨.one (.p (.int .i64 (.ofNat (Nat.min len new.length)))),[],[(id,{b with ch:=b.ch.take off++new.take len++b.ch.drop (off+Nat.min len new.length)})],id::ids⟩
 else none
def Oh (base sz:Nat)(h:HF):List DV->Option Vk
 |[.one (.own id XW off len),.one y]=>match h id with
  |some b=>match WH h y with
   |some (new,ids)=>Nw base sz id XW off len b new ids
   |none=>none
  |none=>none
 |_=>none
def QQ (base:Nat)(z:List PL)(h:HF):List DV->Option Vk
 |[.one (.own id XW off len)]=>match h id with
  |some b=>bif Nat.beq b.XW XW&& !b.mp&& !b.fz&&Nat.beq b.sz z.length&&Nat.ble (off+len) b.ch.length&&Nat.ble base id then
    some ⟨.Wd [],[],[(id,{b with ch:=b.ch.take off++List.replicate len (z.map .p)++b.ch.drop (off+len)})],[id]⟩
   else none
  |none=>none
 |_=>none
def vi (agg:Bool):Nat:=bif agg then 1 else 0
def Sj (VY:Nat)(agg:Bool)(n:Nat):List DV->Option Vk
 |[]=>some ⟨.one (.mp n),[⟨false,0,VY,[],true,vi agg⟩],[],[]⟩
 |_=>none
def xw (VY:Nat)(agg:Bool)(z:List PL):Option (Nat×List DL)->Option DV
 |some (_,c)=>zK agg (c.drop VY)
 |none=>zK agg (z.map .p)
def bn (VY:Nat)(k:IntKind)(agg:Bool)(z:List PL)(ok:Bool)(id:Nat)(b:Xx)(kc:List DL):Option Vk:=
 bif b.mp&&Nat.beq b.sz VY&&Nat.beq kc.length VY&&Nat.beq b.ty (vi agg)&&(Wl k kc kc).isSome then
  match SP k VY kc b.ch 0 with
  |some r=>match xw VY agg z r with
   |some v=>some ⟨bif ok then .Wd [v,.one (.p (.bool r.isSome))]else v,[],[],[id]⟩
   |none=>none
  |none=>none
 else none
def Tl (VY:Nat)(k:IntKind)(agg:Bool)(z:List PL)(ok:Bool)(h:HF):List DV->Option Vk
 |[.one (.mp id),.agg kc]=>match h id with
  |some b=>bn VY k agg z ok id b kc
  |none=>none
 |_=>none
def DV.isAgg:DV->Bool
 | .agg _=>true
 |_=>false
def iG (VY:Nat)(k:IntKind)(id:Nat)(b:Xx)(kc xc:List DL):Option Vk:=
 match SP k VY kc b.ch 0 with
 |some (some (i,_))=>some ⟨.Wd [],[],[(id,{b with ch:=b.ch.set i (kc++xc)})],[id]⟩
 |some none=>some ⟨.Wd [],[],[(id,{b with ch:=b.ch++[kc++xc]})],[id]⟩
 |none=>none
def VK (VY:Nat)(k:IntKind)(agg:Bool)(vsz:Nat)(h:HF):List DV->Option Vk
 |[.one (.mp id),.agg kc,x]=>match h id with
  |some b=>match x.cells with
   |some xc=>bif b.mp&& !b.fz&&Nat.beq b.sz VY&&Nat.beq kc.length VY&&Nat.beq xc.length vsz&&Nat.beq b.ty (vi agg)&&(x.isAgg==agg)&&(Wl k kc kc).isSome then
     iG VY k id b kc xc
    else none
   |none=>none
  |none=>none
 |_=>none
def TR (h:HF):List DV->Option Vk
 |[.one (.mp id)]=>match h id with
  |some b=>bif b.mp&& !Nat.beq b.ty 2 then some ⟨.one (.p (.int .i64 (.ofNat b.ch.length))),[],[],[id]⟩else none
  |none=>none
 |_=>none
def wA:DV->Option DL
 | .one l=>some l
 |_=>none
def Tk (f:Nat)(vs:List DV):Option Vk:=
 match Xw wA vs with
 |some caps=>some (.pure (.one (.fn f caps)))
 |none=>none
def Xj (H:List Xx):HF:=fun id=>H[id]?
def TH:List DV->Option (Nat×Nat×Nat)
 |[]=>none
 | .one (.own id XW 0 len)::_=>some (id,XW,len)
 |_::vs=>TH vs
def S8:List DV->List DV
 |[]=>[]
 | .one (.own _ XW 0 len)::vs=>.one (.own 0 XW 0 len)::vs
 |v::vs=>v::S8 vs
def RC:DV->Bool
 | .one (.p _)=>true
 | .agg cs=>Wi cs
 |_=>false
def Qr:List DV->Bool
 |[]=>true
 | .one (.own _ _ 0 _)::vs=>vs.all RC
 |v::vs=>RC v&&Qr vs
def WX (E:Xa)(h:HF)(f:Nat)(vs:List DV):Option Vk:=
 match TH vs with
 |none=>bif vs.all RC then match E.heap f vs []with
  |some (d,G)=>match XX (Xj G) d with
   |some r=>some ⟨inj r,[],[],[]⟩
   |none=>none
  |none=>none else none
 |some (id,XW,_)=>bif Qr vs then match h id with
  |some b=>bif Nat.beq b.XW XW&& !b.mp&& !b.fz&&b.ch.all Wi then
    match E.heap f (S8 vs) [b]with
    |some (d,b'::G)=>match XX (Xj (b'::G)) d with
     |some r=>bif Nat.beq b'.XW b.XW&& !b'.fz&& !b'.mp&&b'.ch.all Wi&& !((Rj (Xj (b'::G)) d).contains 0)then some ⟨inj r,[],[(id,b')],[id]⟩else none
     |none=>none
    |_=>none
   else none
  |none=>none
 else none
def VL (E:Xa)(h:HF)(f:Nat)(vs:List DV):Option Vk:=
 match E.mode f with
 | .pure=>match Xw (XX h) vs with
   |some ps=>match E.pure f ps with
    |some r=>bif(vs.flatMap (Rj h)).isEmpty||r.scalar then some ⟨inj r,[],[],vs.flatMap (Rj h)⟩
     else some ⟨inj r,[],(vs.flatMap (Rj h)).filterMap (fun id=>(h id).map fun b=>(id,{b with fz:=true})),vs.flatMap (Rj h)⟩
    |none=>none
   |none=>none
 | .heap=>none
 |_=>WX E h f vs
def UL (E:Xa)(f:Nat)(vs:List DV)(H:List Xx):Option (DV×List Xx):=
 match TH vs with
 |none=>bif vs.all RC then match E.heap f vs []with
   |some (.one (.own i XW 0 len),G)=>match G[i]? with
    |some b=>bif !b.fz&& !b.mp&&b.ch.all Wi then some (.one (.own H.length XW 0 len),H++[b])else none
    |none=>none
   |_=>none
  else none
 |some (id,XW,_)=>bif Qr vs then match H[id]? with
  |some b=>bif Nat.beq b.XW XW&& !b.mp&& !b.fz&&b.ch.all Wi then
    match E.heap f (S8 vs) [b]with
    |some (.one (.own (i+1) ver' 0 len),b'::G)=>match G[i]? with
     |some x=>bif Nat.beq b'.XW b.XW&& !b'.fz&& !b'.mp&&b'.ch.all Wi&& !x.fz&& !x.mp&&x.ch.all Wi then some (.one (.own H.length ver' 0 len),H.set id b'++[x])else none
     |none=>none
    |_=>none
   else none
  |none=>none
  else none
def Rr (E:Xa)(h:HF):List DV->Option Vk
 | .one (.p (.fn f caps))::vs=>VL E h (hJ f) (xy f vs (caps.map fun l=>.one (.p l)))
 | .one (.fn f caps)::vs=>VL E h (hJ f) (xy f vs (caps.map .one))
 |_=>none
def Wf (E:Xa)(base:Nat)(op:dK)(vs:List DV)(h:HF)(n:Nat):Option Vk:=
 match op with
 | .move=>ba vs
 | .nilCheck=>Re vs
 | .pick=>aZ vs
 | .box t=>cD t n vs
 | .alloc t z=>QR t z n vs
 | .build z places=>Oi z places vs
 | .buildSlice e z len places=>Uf e z len places n vs
 | .load agg sz=>Of agg sz h vs
 | .store sz=>QN base sz h vs
 | .bin op=>jJ op vs
 | .B8 neq=>be neq vs
 | .fD neq=>Uz neq vs
 | .bE neq k len=>US neq k len vs
 | .un op=>jI op vs
 | .conv k=>bd k vs
 | .fieldAddr off=>UE off vs
 | .Ov sz=>VX sz h vs
 | .kx len sz=>RE len sz vs
 | .TV=>Uo vs
 | .ku len agg sz=>SL len agg sz vs
 | .field agg sz off=>Og agg sz off vs
 | .slice sz lo hi=>QO sz lo hi h vs
 | .extract m=>Rf m vs
 | .len=>OE vs
 | .Eo m=>bc m vs
 | .append e sz bytes=>Vs base e sz bytes h n vs
 | .makeSlice e z bytes=>UD e z bytes n vs
 | .max=>Qt S6 vs
 | .min=>Qt (fun a b=>S6 b a) vs
 | .copy sz=>Oh base sz h vs
 | .makeMap VY agg=>Sj VY agg n vs
 | .lookup VY k agg z ok=>Tl VY k agg z ok h vs
 | .mapUpdate VY k agg vsz=>VK VY k agg vsz h vs
 | .Ng=>TR h vs
 | .makeFunc f=>Tk f vs
 | .call f=>VL E h f vs
 | .Sw=>Rr E h vs
 | .clear z=>QQ base z h vs
 | .slice3=>Py vs
structure St where
 T:List (Nat×DV)
 H:List Xx
def Xi:List (Nat×DV)->Nat->Option DV
 |[],_=>none
 |(t,v)::T,n=>bif Nat.beq t n then some v else Xi T n
def VB.eval (T:List (Nat×DV)):VB->Option DV
 | .t n=>Xi T n
 | .c v=>some (inj v)
def Gy {α β:Type}:List α->Nat->α->(List α->β)->β
 |[],_,_,k=>k []
 |_::xs,0,v,k=>k (v::xs)
 |x::xs,n+1,v,k=>Gy xs n v fun ys=>k (x::ys)
def H5 {α β:Type}:List α->List α->(List α->β)->β
 |[],ys,k=>k ys
 |x::xs,ys,k=>H5 xs ys fun zs=>k (x::zs)
def tK {β:Type}(n:Nat)(k:Nat->β):β:=
 match n with
 |0=>k 0
 |m+1=>k (m+1)
def JJ {β:Type}(n:Int)(k:Int->β):β:=
 match n with
 | .ofNat m=>tK m fun m=>k (.ofNat m)
 | .negSucc m=>tK m fun m=>k (.negSucc m)
def yX {β:Type}(l:DL)(k:DL->β):β:=
 match l with
 | .p (.int i n)=>JJ n fun n=>k (.p (.int i n))
 | .p (.bool b)=>match b with
   |true=>k (.p (.bool true))
   |false=>k (.p (.bool false))
 | .own id XW off len=>tK XW fun XW=>tK off fun off=>tK len fun len=>k (.own id XW off len)
 | .ptr id XW i off=>tK i fun i=>tK off fun off=>k (.ptr id XW i off)
 |l=>k l
def gT {β:Type}:List DL->(List DL->β)->β
 |[],k=>k []
 |l::ls,k=>yX l fun l=>gT ls fun ls=>k (l::ls)
def Gf {β:Type}(v:DV)(k:DV->β):β:=
 match v with
 | .one l=>yX l fun l=>k (.one l)
 | .agg cs=>gT cs fun cs=>k (.agg cs)
 | .Wd vs=>k (.Wd vs)
def Uh (H:List Xx):List (Nat×Xx)->List Xx
 |[]=>H
 |(id,b)::ws=>Uh (H.set id b) ws
def O2 (T:List (Nat×DV))(dst:Option Nat)(v:DV):List (Nat×DV):=
 match dst with
 |some d=>(d,v)::T
 |none=>T
def DB {β:Type}(T:List (Nat×DV))(dst:Option Nat)(v:DV)(k:List (Nat×DV)->β):β:=
 match dst with
 |some d=>k ((d,v)::T)
 |none=>k T
def Mg {β:Type}(H:List Xx):List (Nat×Xx)->(List Xx->β)->β
 |[],k=>k H
 |(id,b)::ws,k=>Gy H id b fun H=>Mg H ws k
def M6 {β:Type}(H al:List Xx)(k:List Xx->β):β:=
 match al with
 |[]=>k H
 |_=>H5 H al k
def NI (H al:List Xx):List Xx:=
 match al with
 |[]=>H
 |_=>H++al
structure QK where
 i:Nat
 rd:P'
 wr:P'
 after:P'
 lo:Nat
 hi:Nat
def U7 (T:List (Nat×DV)):Option (Nat×Bool)->Option Bool
 |none=>some true
 |some (t,want)=>
  match Xi T t with
  |some (.one (.p (.bool b)))=>some (b==want)
  |some (.Wd [])=>some false
  |_=>none
def VA (E:Xa)(dst:Option Nat)(f:Nat)(vs:List DV)(s:St):Option (St×P'×P'):=
 match E.mode f with
 | .heap=>match E.heap f vs s.H with
   |some (v,H)=>DB s.T dst v fun T=>some (⟨T,H⟩,[],[])
   |none=>none
 | .fresh=>match UL E f vs s.H with
   |some (v,H)=>DB s.T dst v fun T=>some (⟨T,H⟩,[],[])
   |none=>none
 |_=>none
def TB (E:Xa)(f:Nat):Bool:=
 match E.mode f with
 | .heap=>true
 |_=>false
def ak (E:Xa)(f:Nat):Bool:=
 match E.mode f with
 | .heap=>true
 | .fresh=>true
 |_=>false
def Xm (E:Xa)(op:dK):Bool:=
 match op with
 | .call f=>TB E f
 |_=>false
def XQ (E:Xa)(op:dK)(vs:List DV):Bool:=
 match op with
 | .call f=>ak E f
 | .Sw=>match vs with
   | .one (.p (.fn f _))::_=>TB E (hJ f)
   | .one (.fn f _)::_=>TB E (hJ f)
   |_=>false
 |_=>false
def PG (E:Xa)(o:Xz)(vs:List DV)(s:St):Option (St×P'×P'):=
 match o.op with
 | .call f=>VA E o.dst f vs s
 | .Sw=>match vs with
   | .one (.p (.fn f caps))::vs=>VA E o.dst (hJ f) (xy f vs (caps.map fun l=>.one (.p l))) s
   | .one (.fn f caps)::vs=>VA E o.dst (hJ f) (xy f vs (caps.map .one)) s
   |_=>none
 |_=>none
def PH (o:Xz)(s:St)(r:Vk):Option (St×P'×P'):=
 Gf r.val fun v=>DB s.T o.dst v fun T=>Mg s.H r.wr fun H=>M6 H r.al fun H=>some (⟨T,H⟩,r.rd,r.wr.map (·.1))
def Vz (E:Xa)(base:Nat)(heap:Bool)(o:Xz)(s:St):Option (St×P'×P'):=
 match U7 s.T o.guard with
 |none=>none
 |some false=>DB s.T o.dst (.Wd []) fun T=>some (⟨T,s.H⟩,[],[])
 |some true=>
  match Xw (VB.eval s.T) o.args with
  |none=>none
  |some vs=>bif heap&&XQ E o.op vs then PG E o vs s else
   match Wf E base o.op vs (Xj s.H) s.H.length with
   |some r=>PH o s r
   |none=>none
def U8 (E:Xa)(base:Nat):List Xz->St->Option St
 |[],s=>some s
 |o::os,s=>
  match Vz E base true o s with
  |some (s,_,_)=>U8 E base os s
  |none=>none
def SX (l:P'):Nat->Bool
 |0=>true
 |i+1=>l.contains i&&SX l i
def Tt (E:Xa)(base:Nat):Nat->List Xz->St->Option (St×List QK)
 |_,[],s=>some (s,[])
 |i,o::os,s=>
  bif Xm E o.op&& !(os.isEmpty&&SX o.after i)then none else
  match Vz E base (Xm E o.op) o s with
  |some (s1,rd,wr)=>
   match Tt E base (i+1) os s1 with
   |some (s2,fs)=>some (s2,⟨i,rd,wr,o.after,s.H.length,s1.H.length⟩::fs)
   |none=>none
  |none=>none
def Nn (f g:QK):Bool:=
 Nat.beq f.i g.i||
  (f.wr.all (fun id=> !(g.wr.contains id)&&(!(g.rd.contains id)||f.after.contains g.i))&&
   g.rd.all (fun id=> !(Nat.ble f.lo id&&Nat.blt id f.hi)||g.after.contains f.i)&&
   g.wr.all (fun id=> !(Nat.ble f.lo id&&Nat.blt id f.hi)||g.after.contains f.i))
def R9 (fs:List QK):Bool:=
 fs.all fun f=>(f.wr.isEmpty&&Nat.beq f.lo f.hi)||fs.all fun g=>Nn f g
def TK (E:Xa)(base:Nat)(ops:List Xz)(s:St):Option St:=
 match Tt E base 0 ops s with
 |some (s,fs)=>bif R9 fs then some s else none
 |none=>none
def SE:Nat->List Xz->Bool
 |_,[]=>true
 |i,o::os=>SX o.after i&&SE (i+1) os
def Ox (E:Xa)(base:Nat)(pre suf:List Xz)(s:St):Option St:=
 match TK E base pre s with
 |some s=>U8 E base suf s
 |none=>none
inductive Ex where
 |normal
 |exit (id:Nat)
 |ret
def V8 (T:List (Nat×DV)):P'->List (Nat×DV)
 |[]=>[]
 |k::ks=>match Xi T k with
  |some v=>(k,v)::V8 T ks
  |none=>V8 T ks
def ue {β:Type}(T:List (Nat×DV)):P'->(List (Nat×DV)->β)->β
 |[],k=>k []
 |n::ns,k=>match Xi T n with
  |some v=>ue T ns fun U=>k ((n,v)::U)
  |none=>ue T ns k
def Nf (body:St->Option (Ex×St)):Nat->St->Option (Ex×St)
 |0,_=>none
 |k+1,s=>
  match body s with
  |some (.normal,s)=>Nf body k s
  |r=>r
def Pp:P'->List PV->List (Nat×DV)->Option (List (Nat×DV))
 |[],[],T=>some T
 |v::vs,x::xs,T=>Pp vs xs ((v,inj x)::T)
 |_,_,_=>none
def Tz (T:List (Nat×DV))(body:St->Option (Ex×St))(vars:P'):List (List PV)->List Xx->Option (Ex×St)
 |[],H=>some (.normal,⟨T,H⟩)
 |xs::rest,H=>
  match Pp vars xs T with
  |some T1=>
   match body ⟨T1,H⟩with
   |some (.normal,s)=>Tz T body vars rest s.H
   |some (.exit id,s)=>some (.exit id,⟨T,s.H⟩)
   |some (.ret,s)=>some (.ret,⟨T,s.H⟩)
   |none=>none
  |none=>none
def XN.flat:XN->Bool
 | .seq a b=>a.flat&&b.flat
 | .cond _ a b=>a.flat&&b.flat
 | .block _ c=>c.flat
 | .loop c=>c.flat
 | .VS _ c=>c.flat
 | .scope _=>false
 | .OJ _ _ _ _=>false
 |_=>true
def SG (pre body:St->Option (Ex×St))(s:St):Option (Ex×St):=
 match pre s with
 |some (.normal,s)=>body s
 |_=>none
def XP (E:Xa)(K base:Nat):XN->St->Option (Ex×St)
 | .skip,s=>some (.normal,s)
 | .region false ops,s=>
   match U8 E base ops s with
   |some s=>some (.normal,s)
   |none=>none
 | .region true ops,s=>
   match TK E base ops s with
   |some s=>some (.normal,s)
   |none=>none
 | .R2 pre suf,s=>
   match Ox E base pre suf s with
   |some s=>some (.normal,s)
   |none=>none
 | .seq a b,s=>
   match XP E K base a s with
   |some (.normal,s)=>XP E K base b s
   |r=>r
 | .cond c a b,s=>
   match c.eval s.T with
   |some (.one (.p (.bool true)))=>XP E K base a s
   |some (.one (.p (.bool false)))=>XP E K base b s
   |_=>none
 | .block id c,s=>
   match XP E K base c s with
   |some (.exit j,s)=>bif j==id then some (.normal,s)else some (.exit j,s)
   |r=>r
 | .loop c,s=>Nf (fun s=>XP E K base c s) K s
 | .VS ks c,s=>ue s.T ks fun T=>XP E K base c ⟨T,s.H⟩
 | .scope c,s=>XP E K base c s
 | .exit id,s=>some (.exit id,s)
 | .ret,s=>some (.ret,s)
 | .OJ f vars pre body,s=>
   match f.eval s.T with
   |some (.one (.p (.fn f caps)))=>
    match E.iter f caps with
    |some xss=>bif pre.flat&&body.flat&&Nat.blt f bF then Tz s.T (SG (fun s=>XP E K base pre s) (fun s=>XP E K base body s)) vars xss s.H else none
    |none=>none
   |_=>none
def WV (s:St):Nat×Option (Bool×Nat)->Option DV
 |(t,none)=>Xi s.T t
 |(t,some (agg,sz))=>
  match Xi s.T t with
  |some (.one (.ptr id XW i off))=>
   match s.H[id]? with
   |some b=>bif Nat.beq b.XW XW&& !b.mp then
     match b.ch[i]? with
     |some c=>
      bif agg then(bif Nat.ble (off+sz) c.length then some (.agg ((c.drop off).take sz))else none)
      else match c.drop off with
       |d::_=>some (.one d)
       |[]=>none
     |none=>none
    else none
   |none=>none
  |_=>none
def zL {β:Type}:List DV->Nat->(List (Nat×DV)->β)->β
 |[],_,k=>k []
 |v::vs,i,k=>zL vs (i+1) fun T=>k ((i,v)::T)
def QB (E:Xa)(K:Nat)(xf:Vu)(args:List DV)(H:List Xx):Option (List DV×St):=
 match(bif Nat.ble args.length xf.ntmps then zL args 0 fun T=>XP E K 0 xf.body ⟨T,H⟩else none)with
 |some (.normal,s)|some (.ret,s)=>
  match Xw (WV s) xf.results with
  |some rs=>some (rs,s)
  |none=>none
 |_=>none
def fT:List PV->PV
 |[v]=>v
 |vs=>.Wd vs
def UN (E:Xa)(K:Nat)(xf:Vu)(args:List PV):Option PV:=
 match QB E K xf (args.map inj) []with
 |some (rs,s)=>
  match Xw (XX (Xj s.H)) rs with
  |some ps=>some (fT ps)
  |none=>none
 |none=>none
def yL:List DV->DV
 |[v]=>v
 |vs=>.Wd vs
def DV.plain:DV->Bool
 | .Wd _=>false
 |_=>true
def VN (E:Xa)(K:Nat)(xf:Vu)(args:List DV)(H:List Xx):Option (DV×List Xx):=
 match QB E K xf args H with
 |some (rs,s)=>bif rs.all DV.plain then some (yL rs,s.H)else none
 |none=>none
def lift (X:Nat->Option Vu)(K:Nat)(E:Xa):Xa:=
 ⟨E.mode,
  fun f args=>match X f with
   |some xf=>UN E K xf args
   |none=>E.pure f args,
  fun f args H=>match X f with
   |some xf=>VN E K xf args H
   |none=>E.heap f args H,
  E.iter⟩
def ev (E0:Xa)(X:Nat->Option Vu)(K:Nat):Nat->Xa
 |0=>E0
 |n+1=>lift X K (ev E0 X K n)
def mF:Value->Option PL
 | .bool b=>some (.bool b)
 | .int k n=>some (.int k n)
 | .slice none 0 0=>some .Xp
 | .string s=>some (.str (s.data.toList.map UInt8.toNat))
 | .nilFunc=>some .Qx
 | .nilIface=>some .Qx
 | .pointer none=>some .Qx
 |_=>none
def Hg:Value->Option PV
 | .agg cs=>match Xw mF cs.toList with
   |some ls=>some (.agg ls)
   |none=>none
 | .tuple vs=>if vs.isEmpty then some (.Wd [])else none
 |v=>match mF v with
  |some l=>some (.one l)
  |none=>none
def zeroOf (P:Program)(t:TypeId):Option (List PL):=
 match P.info? t with
 |some i=>match i.zero with
  |some z=>match Xw mF z.cells.toList with
   |some ls=>if ls.length==i.size then some ls else none
   |none=>none
  |none=>none
 |none=>none
def Wv (P:Program)(t:TypeId):Option Nat:=(P.info? t).map (·.size)
def dz (P:Program)(t:TypeId):Option Nat:=(P.info? t).map (·.bytes)
def fE (P:Program)(t:TypeId):Option Bool:=
 match P.underlying t with
 |some (.struct _)=>some true
 |some (.array _ _)=>some true
 |some _=>some false
 |none=>none
def Pj (P:Program)(t:TypeId):Option Bool:=
 match P.info? t with
 |some i=>match i.zero with
  |some (.agg _)=>some true
  |some v=>if v.oneCell' then some false else none
  |none=>none
 |none=>none
def XJ:Operand->Option VB
 | .tmp t=>some (.t t)
 | .const v=>match Hg v with
   |some l=>some (.c l)
   |none=>none
 | .func f=>if Nat.blt f bF then some (.c (.one (.fn f [])))else none
 | .global _=>none
def PK (a:Array Operand):Option (List VB):=Xw XJ a.toList
def Sx:Option Operand->Option (List VB)
 |none=>some []
 |some x=>match XJ x with
  |some y=>some [y]
  |none=>none
def kl (P:Program)(t:TypeId):Option (Nat×IntKind):=
 match P.underlying t with
 |some (.array n e)=>match P.underlying e,Wv P e with
  |some (.int k),some 1=>some (n,k)
  |_,_=>none
 |_=>none
def XU (P:Program)(b:Builtin)(ts:Array TypeId):Option dK:=
 match b with
 | .len=>match ts[0]? with
   |some t=>match P.underlying t with
    |some (.slice _)=>some .len
    |some (.array n _)=>some (.Eo n)
    |some (.map _ _)=>some .Ng
    |_=>none
   |none=>none
 | .append=>match ts.toList with
   |[t,u]=>if t==u then
      match P.underlying t with
      |some (.slice e)=>match zeroOf P e,dz P e with
       |some z,some b=>if 0<z.length then some (.append e z.length b)else none
       |_,_=>none
      |_=>none
    else none
   |_=>none
 | .copy=>match ts.toList with
   |[t,u]=>if t==u then
      match P.underlying t with
      |some (.slice e)=>match Wv P e with
       |some (n+1)=>some (.copy (n+1))
       |_=>none
      |_=>none
    else none
   |_=>none
 | .clear=>match ts.toList with
   |[t]=>match P.underlying t with
    |some (.slice e)=>match zeroOf P e with
     |some z=>if 0<z.length then some (.clear z)else none
     |none=>none
    |_=>none
   |_=>none
 | .max=>some .max
 | .min=>some .min
 |_=>none
def XY (P:Program)(o:Op):Option (dK×List VB):=
 match o with
 | .move x| .assign x=>match XJ x with
   |some x=>some (.move,[x])
   |none=>none
 | .nilCheck x=>match XJ x with
   |some x=>some (.nilCheck,[x])
   |none=>none
 | .pick c a b=>match XJ c,XJ a,XJ b with
   |some c,some a,some b=>some (.pick,[c,a,b])
   |_,_,_=>none
 | .box t x=>match XJ x with
   |some x=>some (.box t,[x])
   |none=>none
 | .alloc t=>match zeroOf P t with
   |some z=>some (.alloc t z,[])
   |none=>none
 | .build t parts=>
   match zeroOf P t,Xw (fun x=>XJ x.2) parts.toList with
   |some z,some xs=>
    match P.underlying t with
    |some (.struct fs)=>
     match Xw (fun f:Field=>match Wv P f.type with |some s=>some (f.offset,s)|none=>none) fs.toList with
     |some places=>match Xw (fun x:Nat×Operand=>places[x.1]?) parts.toList with
      |some pl=>some (.build z pl,xs)
      |none=>none
     |none=>none
    |some (.array _ e)=>match Wv P e with
     |some s=>some (.build z (parts.toList.map fun x=>(x.1*s,s)),xs)
     |none=>none
    |_=>none
   |_,_=>none
 | .buildSlice t len parts=>
   match P.underlying t with
   |some (.slice e)=>
    match zeroOf P e,Xw (fun x=>XJ x.2) parts.toList with
    |some z,some xs=>if 0<z.length&&Nat.ble (len*z.length) 16777216 then some (.buildSlice e z len (parts.toList.map (·.1)),xs)else none
    |_,_=>none
   |_=>none
 | .load t x=>match fE P t,Wv P t,XJ x with
   |some a,some s,some x=>some (.load a s,[x])
   |_,_,_=>none
 | .store t a x=>match Wv P t,XJ a,XJ x with
   |some s,some a,some x=>some (.store s,[a,x])
   |_,_,_=>none
 | .binOp op t x y _=>
   match XJ x,XJ y with
   |some x,some y=>
    match P.underlying t with
    |some (.int _)=>some (.bin op,[x,y])
    |some .bool=>match op with
     | .eql=>some (.B8 false,[x,y])
     | .neq=>some (.B8 true,[x,y])
     |_=>none
    |some (.slice _)=>match op with
     | .eql=>some (.fD false,[x,y])
     | .neq=>some (.fD true,[x,y])
     |_=>none
    |some (.array n e)=>match P.underlying e,Wv P e,P.eqGuardType P.depth t with
     |some (.int k),some 1,false=>match op with
      | .eql=>some (.bE false k n,[x,y])
      | .neq=>some (.bE true k n,[x,y])
      |_=>none
     |_,_,_=>none
    |_=>none
   |_,_=>none
 | .unOp op _ x=>match XJ x with
   |some x=>some (.un op,[x])
   |none=>none
 | .convert s d x=>match P.underlying s,P.underlying d,XJ x with
   |some _,some (.int k),some x=>some (.conv k,[x])
   |_,_,_=>none
 | .makeFunc (.func f) first caps=>if first.isEmpty then
   match PK caps with
   |some cs=>if Nat.blt f bF then some (.makeFunc f,cs)else none
   |none=>none
   else if caps.isEmpty then
    match PK first with
    |some cs=>some (.makeFunc (f+bF),cs)
    |none=>none
   else none
 | .makeSlice t l c=>
   match P.underlying t with
   |some (.slice e)=>match zeroOf P e,dz P e,XJ l,XJ c with
    |some z,some b,some l,some c=>if 0<z.length then some (.makeSlice e z b,[l,c])else none
    |_,_,_,_=>none
   |_=>none
 | .slice t x lo hi none=>
   match P.underlying t with
   |some (.slice e)=>match XJ x,Sx lo,Sx hi,Wv P e with
    |some x,some l,some h,some s=>some (.slice s lo.isSome hi.isSome,x::(l++h))
    |_,_,_,_=>none
   |_=>none
 | .slice t x (some lo) (some hi) (some mx)=>
   match P.underlying t with
   |some (.slice e)=>match XJ x,XJ lo,XJ hi,XJ mx,Wv P e with
    |some x,some l,some h,some m,some _=>some (.slice3,[x,l,h,m])
    |_,_,_,_,_=>none
   |_=>none
 | .fieldAddr s x f=>match P.underlying s with
   |some (.struct fs)=>match fs[f]? with
    |some fl=>match Wv P fl.type,XJ x with
     |some (_+1),some x=>some (.fieldAddr fl.offset,[x])
     |_,_=>none
    |none=>none
   |_=>none
 | .field s x f=>match P.underlying s with
   |some (.struct fs)=>match fs[f]? with
    |some fl=>match fE P fl.type,Wv P fl.type,XJ x with
     |some a,some sz,some x=>some (.field a sz fl.offset,[x])
     |_,_,_=>none
    |none=>none
   |_=>none
 | .indexAddr t x i=>match P.underlying t,XJ x,XJ i with
   |some (.slice e),some x,some i=>match Wv P e with
    |some s=>some (.Ov s,[x,i])
    |none=>none
   |some (.array n e),some x,some i=>match Wv P e with
    |some s=>some (.kx n s,[x,i])
    |none=>none
   |_,_,_=>none
 | .index t x i=>match P.underlying t,XJ x,XJ i with
   |some .string,some x,some i=>some (.TV,[x,i])
   |some (.array n e),some x,some i=>match fE P e,Wv P e with
    |some a,some s=>some (.ku n a s,[x,i])
    |_,_=>none
   |_,_,_=>none
 | .makeMap t none=>match P.underlying t with
   |some (.map k e)=>match kl P k,Pj P e with
    |some (n,_),some a=>some (.makeMap n a,[])
    |_,_=>none
   |_=>none
 | .lookup t x i ok=>match P.underlying t with
   |some (.map k e)=>match kl P k,Pj P e,zeroOf P e,XJ x,XJ i with
    |some (n,kk),some a,some z,some x,some i=>some (.lookup n kk a z ok,[x,i])
    |_,_,_,_,_=>none
   |_=>none
 | .mapUpdate t m k x=>match P.underlying t with
   |some (.map kt e)=>match kl P kt,Pj P e,Wv P e,XJ m,XJ k,XJ x with
    |some (n,kk),some a,some s,some m,some k,some x=>some (.mapUpdate n kk a s,[m,k,x])
    |_,_,_,_,_,_=>none
   |_=>none
 | .extract x n=>match XJ x with
   |some x=>some (.extract n,[x])
   |none=>none
 | .call c=>match PK c.args with
   |some xs=>
    match c.callee with
    | .builtin b=>match XU P b c.argTypes with
      |some op=>some (op,xs)
      |none=>none
    | .value (.func f)=>some (.call f,xs)
    | .value x=>match XJ x with
      |some x=>some (.Sw,x::xs)
      |none=>none
    | .invoke _ _=>none
   |none=>none
 |_=>none
def OH (nt:Nat):Option Nat->Bool
 |none=>true
 |some d=>Nat.blt d nt
def Qi (ops:List Oper):Option (Nat×Bool)->Option (Option (Nat×Bool))
 |none=>some none
 |some (j,want)=>match ops[j]? with
  |some g=>match g.dst with
   |some d=>some (some (d,want))
   |none=>none
  |none=>none
def Tv (P:Program)(nt:Nat)(ops:List Oper)(o:Oper):Option Xz:=
 match XY P o.op with
 |some (op,args)=>match Qi ops o.guard with
  |some g=>if OH nt o.dst then some ⟨o.dst,op,args,g,(o.after.toList.filter (Region.binds .any)).map (·.on)⟩else none
  |none=>none
 |none=>none
def VB.tmp:VB->P'
 | .t n=>[n]
 | .c _=>[]
def Xz.tmps (o:Xz):P':=
 o.args.flatMap VB.tmp++(match o.guard with |some (t,_)=>[t]|none=>[])
def kH (ops:List Xz):Bool:=
 ops.zipIdx.all fun(o,i)=>
  o.after.all (fun j=>Nat.blt j i)&&
  ops.zipIdx.all fun(q,j)=>i==j||
   match q.dst with
   |none=>true
   |some d=>(match o.dst with |some e=>d !=e|none=>true)&&
    (!(o.tmps.contains d)||o.after.contains j||q.after.contains i)
def iw (done:List Xz)(j:Nat):P':=
 match done[j]? with
 |some p=>p.after
 |none=>[]
def dd:P'->P'
 |[]=>[]
 |x::xs=>bif xs.contains x then dd xs else x::dd xs
def W1:List Xz->List Xz->List Xz
 |done,[]=>done
 |done,o::os=>W1 (done++[{o with after:=dd (o.after++o.after.flatMap (iw done))}]) os
theorem wI (x):∀l:P',x∈dd l↔x∈l
 |[]=>by simp[dd]
 |y::l=>by
  have a:=wI x l;simp only[dd]
  grind
def Xz.bare (o:Xz):Xz:={o with after:=[]}
def XS (P:Program)(nt:Nat):Code->Option XN
 | .skip=>some .skip
 | .region _ ops draws=>
   match Xw (Tv P nt ops.toList) ops.toList with
   |some os=>if draws then(if kH (W1 [] os)then some (.region true (W1 [] os))else none)else some (.region false (os.map Xz.bare))
   |none=>none
 | .seq a b=>match XS P nt a,XS P nt b with
   |some a,some b=>some (.seq a b)
   |_,_=>none
 | .cond c a b=>match XJ c,XS P nt a,XS P nt b with
   |some c,some a,some b=>some (.cond c a b)
   |_,_,_=>none
 | .block id c=>match XS P nt c with
   |some c=>some (.block id c)
   |none=>none
 | .loop c=>match XS P nt c with
   |some c=>some (.loop c)
   |none=>none
 | .exit id=>some (.exit id)
 | .ret=>some .ret
 | .scope c=>match XS P nt c with
   |some c=>some (.scope c)
   |none=>none
 | .label _=>some .skip
 | .rangeFunc f vars pre body=>match XJ f,XS P nt pre,XS P nt body with
   |some f,some pre,some body=>if vars.toList.all (fun v=>Nat.blt v nt)then some (.OJ f vars.toList pre body)else none
   |_,_,_=>none
 |_=>none
def Qb (P:Program):ResultVar->Option (Nat×Option (Bool×Nat))
 | .tmp t=>some (t,none)
 | .cell a t=>match fE P t,Wv P t with
   |some g,some s=>some (a,some (g,s))
   |_,_=>none
def uR (P:Program)(fn:Func):Option Vu:=
 if fn.name == "runtime.NumGoroutine" then none else
 match fn.body with
 |some c=>match XS P fn.ntmps c,Xw (Qb P) fn.results.toList with
  |some c,some rs=>some ⟨fn.ntmps,rs,c⟩
  |_,_=>none
 |none=>none
def XN.erase:XN->XN
 | .seq a b=>.seq a.erase b.erase
 | .cond c a b=>.cond c a.erase b.erase
 | .block id c=>.block id c.erase
 | .loop c=>.loop c.erase
 | .VS _ c=>c.erase
 | .scope c=>.scope c.erase
 | .OJ f vs a b=>.OJ f vs a.erase b.erase
 | .R2 pre suf=>bif SE pre.length suf then .region true (pre++suf)else .VS [] .skip
 |c=>c
end Go.Ev
namespace Go
abbrev N':=List Go.Ev.PL
abbrev Z':=List (List Go.Ev.PL)
abbrev V':=List Go.Ev.Xx
abbrev X':=List Go.Ev.DV
abbrev Y':=List Go.Ev.DL
abbrev K':=List (List Go.Ev.DL)
abbrev O':=List Go.Ev.Xz
abbrev La0 (n:Nat):Ev.PL:=.int .i64 (.ofNat n)
abbrev La1 (n:Nat):Ev.DV:=.one (.p (.int .i64 (.ofNat n)))
abbrev La2 (n:Nat):Ev.PL:=.int .u64 (.ofNat n)
abbrev La3 (n:Nat):Ev.DV:=.one (.p (.int .u64 (.ofNat n)))
abbrev La4 (x:Ev.PL):Ev.DV:=.one (.p x)
