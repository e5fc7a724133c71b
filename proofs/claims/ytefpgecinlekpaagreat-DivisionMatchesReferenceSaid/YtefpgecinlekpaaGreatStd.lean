/- Slices of words as the interpreter sees them. -/
import Derived.Test.YtefpgecinlekpaaGreatEvRun
import Derived.Test.YtefpgecinlekpaaGreatNum
import Derived.Test.YtefpgecinlekpaaGreatTab
import Derived.Test.YtefpgecinlekpaaGreatEvRmap
namespace Go.Ev
open Go.Num
theorem VM {a:Type}{p q:a->Prop}{x:a}(h:p x)(k:q x):∃x,p x/\q x:=⟨x,h,k⟩
def Ug (ws:List Nat):List (List PL):=ws.map fun w=>[.int .u32 (.ofNat w)]
def Wm (ws:List Nat):List (List DL):=ws.map fun w=>[.p (.int .u32 (.ofNat w))]
theorem AN {a:List Nat}{i w:Nat}(h:a[i]? =some w):(Ug a)[i]? =some [.int .u32 (.ofNat w)]:=by simp[Ug,h]
theorem X5 {a:List Nat}{i w:Nat}(h:a[i]? =some w):(Wm a)[i]? =some [.p (.int .u32 (.ofNat w))]:=by simp[Wm,h]
theorem rZ (a:List Nat):(Ug a).length=a.length:=by simp[Ug]
theorem Vb (a:List Nat):(Wm a).length=a.length:=by simp[Wm]
theorem wU (a:List Nat)(n:Nat):(Ug a).take n=Ug (a.take n):=by simp[Ug,List.map_take]
theorem mi (a:List Nat)(n:Nat):(Wm a).take n=Wm (a.take n):=by simp[Wm,List.map_take]
theorem mj (a:List Nat)(n:Nat):(Wm a).drop n=Wm (a.drop n):=by simp[Wm,List.map_drop]
theorem WG (a:List Nat)(i w:Nat):(Wm a).set i [.p (.int .u32 (.ofNat w))]=Wm (a.set i w):=by simp[Wm,List.map_set]
theorem UW (n:Nat):List.replicate n [DL.p (.int .u32 (.ofNat 0))]=Wm (List.replicate n 0):=by simp[Wm]
theorem rY (a:List Nat):(Ug a).map (·.map DL.p)=Wm a:=by simp[Ug,Wm]
theorem V4 (n:Nat)(h:HF):∀(a:List Nat),Xt (Xt (XB n h)) (Wm a)=some (Ug a)
 |[]=>rfl
 |w::a=>by
  have:=V4 n h a;simp only[Wm,Ug]at this;simp only[Wm,Ug,Zw,Xt,jJ,this]
theorem Ul (n:Nat)(h:HF):∀(a:List Nat),(Wm a).flatMap (fun c=>c.flatMap (WY n h))=[]
 |[]=>rfl
 |w::a=>by
  have:=Ul n h a;simp only[Wm]at this;simp only[Wm,Zw,Yo,List.flatMap_nil,jG,this,ZN]
theorem uh (b:List Nat):(Wm b).all (fun c=>Nat.beq c.length 1)=true:=by
 rw[ZP];intro c a;simp only[Wm,ZH]at a;obtain⟨w,-,rfl⟩:=a;rfl
def Sl (l:PL)(es:List (List PL)):Prop:=l=.Xv es\/(es=[]/\l=.XJ)
section
variable {l:PL}{es:List (List PL)}{h:HF}{sz i n:Nat}{c:List PL}{k:IntKind}
theorem Sl.Xv:Sl (.Xv es) es:=.inl rfl
theorem Sl.nil:Sl .XJ []:=.inr ⟨rfl,rfl⟩
theorem Sl.len (s:Sl l es):R6 [.one (.p l)]=some ⟨.one (.p (.int .i64 (.ofNat es.length))),[],[],[]⟩:=by
 rcases s with rfl|⟨rfl,rfl⟩<;>rfl
theorem Sl.idx (s:Sl l es)(a:es[i]? =some c)(b:c.length=sz):VA sz h [.one (.p l),.one (.p (.int k (.ofNat i)))]=some ⟨.one (.p (.ref c)),[],[],[]⟩:=by
 rcases s with rfl|⟨rfl,rfl⟩
 ·simp only[VA,a,pz b,cond_true,W5.pure]
 ·simp at a
theorem Sl.chunks (s:Sl l es):Wt h (.p l)=some (es.map (·.map .p),[]):=by
 rcases s with rfl|⟨rfl,rfl⟩<;>rfl
end
abbrev V9 (l:PL)(ws:List Nat):Prop:=Sl l (Ug ws)
theorem V9.len {l:PL}{a:List Nat}(s:V9 l a):R6 [.one (.p l)]=some ⟨.one (.p (.int .i64 (.ofNat a.length))),[],[],[]⟩:=by
 rw[Sl.len s,rZ]
theorem V9.idx {l:PL}{a:List Nat}{h:HF}{i w:Nat}{k:IntKind}(s:V9 l a)(b:a[i]? =some w):VA 1 h [.one (.p l),.one (.p (.int k (.ofNat i)))]=some ⟨.one (.p (.ref [.int .u32 (.ofNat w)])),[],[],[]⟩:=
 Sl.idx s (AN b) rfl
theorem AM {b:List Nat}:∀c∈Ug b,c.length=1:=by
 intro c a;simp only[Ug,ZH]at a;obtain⟨w,-,rfl⟩:=a;rfl
theorem V9.upto {l:PL}{a:List Nat}{n:Nat}(s:V9 l a)(b:n<=a.length):∃d,(∀h,WH 1 h (.p l) 0 (some n)=some (.p d,[]))/\V9 d (a.take n):=by
 rcases s with rfl|⟨e,rfl⟩
 ·refine⟨.Xv (Ug (a.take n)),fun h=> ?_,.Xv⟩;have g:RR 1 (Ug a)[0]? =true:=by
   cases i:(Ug a)[0]? with
   |none=>rfl
   |some c=>exact pz (AM c (Zt i))
  have h0:Nat.ble 0 n=true:=Qf (Zs _);have f:Nat.ble n (Ug a).length=true:=Qf (by rw[rZ];exact b);simp only[WH,Option.getD_some,f,g,h0,YT,cond_true,Ye,wU]
 ·have :a=[]:=by simpa[Ug]using e
  subst this;have :n=0:=by simpa using b
  subst this;exact⟨.XJ,fun _=>rfl,.nil⟩
abbrev aY (l:PL)(n:Nat):Prop:=V9 l (Xd n)
theorem aY.zero:aY .XJ 0:=by show Sl .XJ (Ug (Xd 0));rw[WT];exact .nil
def UB (c:List PL)(z:Int):Prop:=∃m,c=[.bool (decide (z<0)),m]/\aY m z.natAbs
theorem wH {e n:Nat}{a:List Nat}{b:List Nat}(h0:a≠[])(f:a.length<1000000000000):WK e 1 4 n (Wm a) b=some ⟨.one (.own n 0 0 a.length),[⟨false,0,1,Wm a,false,e⟩],[],b⟩:=by
 have c:Nat.ble ((Wm a).length*4) lim=true:=Qf (by rw[Vb];unfold lim;omega);have d:Nat.ble (Wm a).length 9223372036854775807=true:=Qf (by rw[Vb];omega);cases a with
 |nil=>exact absurd rfl h0
 |cons w a=>
  simp only[WK,c,d,YT,cond_true];simp only[Wm,Zw,Zi,Zy]
def eT (z:Int):Int:=if z=0 then .ofNat 0 else if z<0 then .negSucc 0 else .ofNat 1
def Sm (z:Int):Prop:=(Xd z.natAbs).length<100000000000
theorem Sf {n:Nat}:(Xd n).length=1↔0<n/\n<4294967296:=by
 by_cases h:n=0
 ·subst h;rw[WT];simp
 ·rw[Ut h];by_cases a:n / 4294967296=0
  ·rw[a,WT];simp;omega
  ·rw[Ut a];simp;omega
theorem RY {n:Nat}(h:0<n)(a:n<4294967296):Xd n=[n]:=by
 rw[Ut (by omega),show n / 4294967296=0 by omega,WT,Zf a]
theorem WU {n:Nat}:(Xd n).length=0↔n=0:=by
 by_cases h:n=0
 ·subst h;rw[WT];simp
 ·rw[Ut h];simp[h]
theorem UB.len {c:List PL}{z:Int}(h:UB c z):∃n m,c=[.bool n,m]:=by
 obtain⟨m,rfl,-⟩:=h;exact⟨_,m,rfl⟩
end Go.Ev
namespace Go.Proofs.YtefpgecinlekpaaGreat
open Go.Ev
def zn (n:Nat):List Nat->Bool
 |[]=>false
 |x::xs=>bif Nat.beq n x then true else zn n xs
def DS:List Nat:=[89,91,133,125,107,150,175,176,177,178,179,180,181,182,201,202,203,210,140,160,161,162,163,164,165,166,167,192,195,196,209,194,124,106,110,199,200,207,206,44,35]
def md (f:Nat):Ev.Mode:=bif zn f DS then .heap else .pure
noncomputable def XV:Nat->Option W4:=dL [150,140] X
structure Std (B:Xr):Prop where
 mode:B.E0.mode=md
 X6:∀f xf,XV f=some xf->B.X f=some xf
theorem Std.Xi {B:Xr}(h:Std B):X0 B fun E _=>E.mode=md:=by
 have:=X0.mode (B:=B)
 rwa[h.mode]at this
theorem XW:md 2=.pure/\md 3=.pure/\md 4=.pure/\md 5=.pure/\md 6=.pure/\md 7=.pure/\md 8=.pure/\md 9=.pure/\md 10=.pure/\md 11=.pure/\md 12=.pure/\md 13=.pure/\md 14=.pure/\md 15=.pure/\md 16=.pure/\md 17=.pure/\md 18=.pure/\md 19=.pure/\md 20=.pure/\md 21=.pure/\md 22=.pure/\md 23=.pure/\md 24=.pure/\md 25=.pure/\md 26=.pure/\md 27=.pure/\md 28=.pure/\md 29=.pure/\md 30=.pure/\md 31=.pure/\md 32=.pure/\md 33=.pure/\md 34=.pure/\md 35=.heap/\md 36=.pure/\md 37=.pure/\md 38=.pure/\md 39=.pure/\md 40=.pure/\md 41=.pure/\md 42=.pure/\md 43=.pure/\md 44=.heap/\md 45=.pure/\md 46=.pure/\md 47=.pure/\md 48=.pure/\md 49=.pure/\md 50=.pure/\md 51=.pure/\md 52=.pure/\md 53=.pure/\md 54=.pure/\md 55=.pure/\md 56=.pure/\md 57=.pure/\md 58=.pure/\md 59=.pure/\md 60=.pure/\md 61=.pure/\md 62=.pure/\md 63=.pure/\md 64=.pure/\md 65=.pure/\md 66=.pure/\md 67=.pure/\md 68=.pure/\md 69=.pure/\md 70=.pure/\md 71=.pure/\md 72=.pure/\md 73=.pure/\md 74=.pure/\md 75=.pure/\md 76=.pure/\md 77=.pure/\md 78=.pure/\md 79=.pure/\md 80=.pure/\md 81=.pure/\md 82=.pure/\md 83=.pure/\md 84=.pure/\md 85=.pure/\md 86=.pure/\md 87=.pure/\md 88=.pure/\md 89=.heap/\md 90=.pure/\md 91=.heap/\md 92=.pure/\md 93=.pure/\md 94=.pure/\md 95=.pure/\md 96=.pure/\md 97=.pure/\md 98=.pure/\md 99=.pure/\md 100=.pure/\md 101=.pure/\md 102=.pure/\md 103=.pure/\md 104=.pure/\md 105=.pure/\md 106=.heap/\md 107=.heap/\md 108=.pure/\md 109=.pure/\md 110=.heap/\md 111=.pure/\md 112=.pure/\md 113=.pure/\md 114=.pure/\md 115=.pure/\md 116=.pure/\md 117=.pure/\md 118=.pure/\md 119=.pure/\md 120=.pure/\md 121=.pure/\md 122=.pure/\md 123=.pure/\md 124=.heap/\md 125=.heap/\md 126=.pure/\md 127=.pure/\md 128=.pure/\md 129=.pure/\md 130=.pure/\md 131=.pure/\md 132=.pure/\md 133=.heap/\md 134=.pure/\md 135=.pure/\md 136=.pure/\md 137=.pure/\md 138=.pure/\md 139=.pure/\md 140=.heap/\md 141=.pure/\md 142=.pure/\md 143=.pure/\md 144=.pure/\md 145=.pure/\md 146=.pure/\md 147=.pure/\md 148=.pure/\md 149=.pure/\md 150=.heap/\md 151=.pure/\md 152=.pure/\md 153=.pure/\md 154=.pure/\md 155=.pure/\md 156=.pure/\md 157=.pure/\md 158=.pure/\md 159=.pure/\md 160=.heap/\md 161=.heap/\md 162=.heap/\md 163=.heap/\md 164=.heap/\md 165=.heap/\md 166=.heap/\md 167=.heap/\md 168=.pure/\md 169=.pure/\md 170=.pure/\md 171=.pure/\md 172=.pure/\md 173=.pure/\md 174=.pure/\md 175=.heap/\md 176=.heap/\md 177=.heap/\md 178=.heap/\md 179=.heap/\md 180=.heap/\md 181=.heap/\md 182=.heap/\md 183=.pure/\md 184=.pure/\md 185=.pure/\md 186=.pure/\md 187=.pure/\md 188=.pure/\md 189=.pure/\md 190=.pure/\md 191=.pure/\md 192=.heap/\md 193=.pure/\md 194=.heap/\md 195=.heap/\md 196=.heap/\md 197=.pure/\md 198=.pure/\md 199=.heap/\md 200=.heap/\md 201=.heap/\md 202=.heap/\md 203=.heap/\md 204=.pure/\md 205=.pure/\md 206=.heap/\md 207=.heap/\md 208=.pure/\md 209=.heap/\md 210=.heap:=
 ⟨rfl,rfl,rfl,rfl,rfl,rfl,rfl,rfl,rfl,rfl,rfl,rfl,rfl,rfl,rfl,rfl,rfl,rfl,rfl,rfl,rfl,rfl,rfl,rfl,rfl,rfl,rfl,rfl,rfl,rfl,rfl,rfl,rfl,rfl,rfl,rfl,rfl,rfl,rfl,rfl,rfl,rfl,rfl,rfl,rfl,rfl,rfl,rfl,rfl,rfl,rfl,rfl,rfl,rfl,rfl,rfl,rfl,rfl,rfl,rfl,rfl,rfl,rfl,rfl,rfl,rfl,rfl,rfl,rfl,rfl,rfl,rfl,rfl,rfl,rfl,rfl,rfl,rfl,rfl,rfl,rfl,rfl,rfl,rfl,rfl,rfl,rfl,rfl,rfl,rfl,rfl,rfl,rfl,rfl,rfl,rfl,rfl,rfl,rfl,rfl,rfl,rfl,rfl,rfl,rfl,rfl,rfl,rfl,rfl,rfl,rfl,rfl,rfl,rfl,rfl,rfl,rfl,rfl,rfl,rfl,rfl,rfl,rfl,rfl,rfl,rfl,rfl,rfl,rfl,rfl,rfl,rfl,rfl,rfl,rfl,rfl,rfl,rfl,rfl,rfl,rfl,rfl,rfl,rfl,rfl,rfl,rfl,rfl,rfl,rfl,rfl,rfl,rfl,rfl,rfl,rfl,rfl,rfl,rfl,rfl,rfl,rfl,rfl,rfl,rfl,rfl,rfl,rfl,rfl,rfl,rfl,rfl,rfl,rfl,rfl,rfl,rfl,rfl,rfl,rfl,rfl,rfl,rfl,rfl,rfl,rfl,rfl,rfl,rfl,rfl,rfl,rfl,rfl,rfl,rfl,rfl,rfl,rfl,rfl,rfl,rfl,rfl,rfl,rfl,rfl,rfl,rfl,rfl,rfl⟩
end Go.Proofs.YtefpgecinlekpaaGreat
