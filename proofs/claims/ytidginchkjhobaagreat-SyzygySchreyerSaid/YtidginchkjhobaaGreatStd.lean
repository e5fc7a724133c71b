/- Slices of words as the interpreter sees them. -/
import Derived.Test.YtidginchkjhobaaGreatEvRun
import Derived.Test.YtidginchkjhobaaGreatNum
import Derived.Test.YtidginchkjhobaaGreatTab
import Derived.Test.YtidginchkjhobaaGreatEvRmap
namespace Go.Ev
open Go.Num
theorem VO {a:Type}{p q:a->Prop}{x:a}(h:p x)(k:q x):∃x,p x/\q x:=⟨x,h,k⟩
def Uy (ws:P'):I':=ws.map fun w=>[.int .u32 (.ofNat w)]
def Wl (ws:P'):K':=ws.map fun w=>[.p (.int .u32 (.ofNat w))]
theorem DZ {a:P'}{i w:Nat}(h:a[i]? =some w):(Uy a)[i]? =some [.int .u32 (.ofNat w)]:=by simp[Uy,h]
theorem X7 {a:P'}{i w:Nat}(h:a[i]? =some w):(Wl a)[i]? =some [.p (.int .u32 (.ofNat w))]:=by simp[Wl,h]
theorem vX (a:P'):(Uy a).length=a.length:=by simp[Uy]
theorem Vv (a:P'):(Wl a).length=a.length:=by simp[Wl]
theorem AK (a:P')(n:Nat):(Uy a).take n=Uy (a.take n):=by simp[Uy,List.map_take]
theorem pV (a:P')(n:Nat):(Wl a).take n=Wl (a.take n):=by simp[Wl,List.map_take]
theorem pZ (a:P')(n:Nat):(Wl a).drop n=Wl (a.drop n):=by simp[Wl,List.map_drop]
theorem WQ (a:P')(i w:Nat):(Wl a).set i [.p (.int .u32 (.ofNat w))]=Wl (a.set i w):=by simp[Wl,List.map_set]
theorem Tn (n:Nat):List.replicate n [DL.p (.int .u32 (.ofNat 0))]=Wl (List.replicate n 0):=by simp[Wl]
theorem vW (a:P'):(Uy a).map (·.map DL.p)=Wl a:=by simp[Uy,Wl]
theorem Um (n:Nat)(h:HF):∀(a:P'),Xv (Xv (XC n h)) (Wl a)=some (Uy a)
 |[]=>rfl
 |w::a=>by
  have:=Um n h a;simp only[Wl,Uy]at this;simp only[Wl,Uy,Zt,Xv,mJ,this]
theorem UA (n:Nat)(h:HF):∀(a:P'),(Wl a).flatMap (fun c=>c.flatMap (Vk n h))=[]
 |[]=>rfl
 |w::a=>by
  have:=UA n h a;simp only[Wl]at this;simp only[Wl,Zt,List.flatMap_cons,List.flatMap_nil,mG,this,ZE]
theorem xU (b:P'):(Wl b).all (fun c=>Nat.beq c.length 1)=true:=by
 rw[ZI];intro c a;simp only[Wl,ZM]at a;obtain⟨w,-,rfl⟩:=a;rfl
def Sl (l:PL)(es:I'):Prop:=l=.Xn es\/(es=[]/\l=.Xq)
section
variable {l:PL}{es:I'}{h:HF}{sz i n:Nat}{c:N'}{k:IntKind}
theorem Sl.Xn:Sl (.Xn es) es:=.inl rfl
theorem Sl.nil:Sl .Xq []:=.inr ⟨rfl,rfl⟩
theorem Sl.len (s:Sl l es):Oa [.one (.p l)]=some ⟨LB es.length,[],[],[]⟩:=by
 rcases s with rfl|⟨rfl,rfl⟩<;>rfl
theorem Sl.idx (s:Sl l es)(a:es[i]? =some c)(b:c.length=sz):VV sz h [.one (.p l),.one (.p (.int k (.ofNat i)))]=some ⟨.one (.p (.ref c)),[],[],[]⟩:=by
 rcases s with rfl|⟨rfl,rfl⟩
 ·simp only[VV,a,xQ b,cond_true,Va.pure]
 ·simp at a
theorem Sl.chunks (s:Sl l es):Wv h (.p l)=some (es.map (·.map .p),[]):=by
 rcases s with rfl|⟨rfl,rfl⟩<;>rfl
end
abbrev Us (l:PL)(ws:P'):Prop:=Sl l (Uy ws)
theorem Us.len {l:PL}{a:P'}(s:Us l a):Oa [.one (.p l)]=some ⟨LB a.length,[],[],[]⟩:=by
 rw[Sl.len s,vX]
theorem Us.idx {l:PL}{a:P'}{h:HF}{i w:Nat}{k:IntKind}(s:Us l a)(b:a[i]? =some w):VV 1 h [.one (.p l),.one (.p (.int k (.ofNat i)))]=some ⟨.one (.p (.ref [.int .u32 (.ofNat w)])),[],[],[]⟩:=
 Sl.idx s (DZ b) rfl
theorem DY {b:P'}:∀c∈Uy b,c.length=1:=by
 intro c a;simp only[Uy,ZM]at a;obtain⟨w,-,rfl⟩:=a;rfl
theorem Us.upto {l:PL}{a:P'}{n:Nat}(s:Us l a)(b:n<=a.length):∃d,(∀h,WA 1 h (.p l) 0 (some n)=some (.p d,[]))/\Us d (a.take n):=by
 rcases s with rfl|⟨e,rfl⟩
 ·refine⟨.Xn (Uy (a.take n)),fun h=> ?_,.Xn⟩;have g:Qx 1 (Uy a)[0]? =true:=by
   cases i:(Uy a)[0]? with
   |none=>rfl
   |some c=>exact xQ (DY c (Zk i))
  have h0:Nat.ble 0 n=true:=Py (Zw _);have f:Nat.ble n (Uy a).length=true:=Py (by rw[vX];exact b);simp only[WA,Option.getD_some,f,g,h0,Bool.and_self,cond_true,Yh,AK]
 ·have :a=[]:=by simpa[Uy]using e
  subst this;have :n=0:=by simpa using b
  subst this;exact⟨.Xq,fun _=>rfl,.nil⟩
abbrev cK (l:PL)(n:Nat):Prop:=Us l (Xd n)
theorem cK.zero:cK .Xq 0:=by show Sl .Xq (Uy (Xd 0));rw[Vn];exact .nil
def Tw (c:N')(z:Int):Prop:=∃m,c=[.bool (decide (z<0)),m]/\cK m z.natAbs
theorem Aw {e n:Nat}{a:P'}{b:P'}(h0:a≠[])(f:a.length<10000000000000):WZ e 1 4 n (Wl a) b=some ⟨.one (.own n 0 0 a.length),[⟨false,0,1,Wl a,false,e⟩],[],b⟩:=by
 have c:Nat.ble ((Wl a).length*4) lim=true:=Py (by rw[Vv];unfold lim;omega);have d:Nat.ble (Wl a).length 9223372036854775807=true:=Py (by rw[Vv];omega);cases a with
 |nil=>exact absurd rfl h0
 |cons w a=>
  simp only[WZ,c,d,Bool.and_self,cond_true];simp only[Wl,Zt,Zi,ZP]
def nS (z:Int):Int:=if z=0 then .ofNat 0 else if z<0 then .negSucc 0 else .ofNat 1
def Sm (z:Int):Prop:=(Xd z.natAbs).length<2000000000000
theorem T6 {n:Nat}:(Xd n).length=1↔0<n/\n<4294967296:=by
 by_cases h:n=0
 ·subst h;rw[Vn];simp
 ·rw[To h];by_cases a:n / 4294967296=0
  ·rw[a,Vn];simp;omega
  ·rw[To a];simp;omega
theorem On {n:Nat}(h:0<n)(a:n<4294967296):Xd n=[n]:=by
 rw[To (by omega),show n / 4294967296=0 by omega,Vn,Zh a]
theorem VE {n:Nat}:(Xd n).length=0↔n=0:=by
 by_cases h:n=0
 ·subst h;rw[Vn];simp
 ·rw[To h];simp[h]
theorem Tw.len {c:N'}{z:Int}(h:Tw c z):∃n m,c=[.bool n,m]:=by
 obtain⟨m,rfl,-⟩:=h;exact⟨_,m,rfl⟩
end Go.Ev
namespace Go.Proofs.YtidginchkjhobaaGreat
open Go.Ev
def oF (n:Nat):P'->Bool
 |[]=>false
 |x::xs=>bif Nat.beq n x then true else oF n xs
def HL:P':=[131,132,165,169,186,198,199,200,201,202,203,204,205,208,210,211,212,213,168,120,196,197,192,191,46,47]
def GI:P':=[84]
def Fs:P':=[41,16,44]
def md (f:Nat):Ev.Mode:=bif oF f HL then .heap else bif oF f GI then .view else bif oF f Fs then .fresh else .pure
noncomputable def XV:Nat->Option Vl:=fL [186] X
structure Std (B:Xs):Prop where
 mode:B.E0.mode=md
 Wa:∀f xf,XV f=some xf->B.X f=some xf
theorem Std.Xk {B:Xs}(h:Std B):XS B fun E _=>E.mode=md:=by
 have:=XS.mode (B:=B)
 rwa[h.mode]at this
theorem X4:md 2=.pure/\md 3=.pure/\md 4=.pure/\md 5=.pure/\md 6=.pure/\md 7=.pure/\md 8=.pure/\md 9=.pure/\md 10=.pure/\md 11=.pure/\md 12=.pure/\md 13=.pure/\md 14=.pure/\md 15=.pure/\md 16=.fresh/\md 17=.pure/\md 18=.pure/\md 19=.pure/\md 20=.pure/\md 21=.pure/\md 22=.pure/\md 23=.pure/\md 24=.pure/\md 25=.pure/\md 26=.pure/\md 27=.pure/\md 28=.pure/\md 29=.pure/\md 30=.pure/\md 31=.pure/\md 32=.pure/\md 33=.pure/\md 34=.pure/\md 35=.pure/\md 36=.pure/\md 37=.pure/\md 38=.pure/\md 39=.pure/\md 40=.pure/\md 41=.fresh/\md 42=.pure/\md 43=.pure/\md 44=.fresh/\md 45=.pure/\md 46=.heap/\md 47=.heap/\md 48=.pure/\md 49=.pure/\md 50=.pure/\md 51=.pure/\md 52=.pure/\md 53=.pure/\md 54=.pure/\md 55=.pure/\md 56=.pure/\md 57=.pure/\md 58=.pure/\md 59=.pure/\md 60=.pure/\md 61=.pure/\md 62=.pure/\md 63=.pure/\md 64=.pure/\md 65=.pure/\md 66=.pure/\md 67=.pure/\md 68=.pure/\md 69=.pure/\md 70=.pure/\md 71=.pure/\md 72=.pure/\md 73=.pure/\md 74=.pure/\md 75=.pure/\md 76=.pure/\md 77=.pure/\md 78=.pure/\md 79=.pure/\md 80=.pure/\md 81=.pure/\md 82=.pure/\md 83=.pure/\md 84=.view/\md 85=.pure/\md 86=.pure/\md 87=.pure/\md 88=.pure/\md 89=.pure/\md 90=.pure/\md 91=.pure/\md 92=.pure/\md 93=.pure/\md 94=.pure/\md 95=.pure/\md 96=.pure/\md 97=.pure/\md 98=.pure/\md 99=.pure/\md 100=.pure/\md 101=.pure/\md 102=.pure/\md 103=.pure/\md 104=.pure/\md 105=.pure/\md 106=.pure/\md 107=.pure/\md 108=.pure/\md 109=.pure/\md 110=.pure/\md 111=.pure/\md 112=.pure/\md 113=.pure/\md 114=.pure/\md 115=.pure/\md 116=.pure/\md 117=.pure/\md 118=.pure/\md 119=.pure/\md 120=.heap/\md 121=.pure/\md 122=.pure/\md 123=.pure/\md 124=.pure/\md 125=.pure/\md 126=.pure/\md 127=.pure/\md 128=.pure/\md 129=.pure/\md 130=.pure/\md 131=.heap/\md 132=.heap/\md 133=.pure/\md 134=.pure/\md 135=.pure/\md 136=.pure/\md 137=.pure/\md 138=.pure/\md 139=.pure/\md 140=.pure/\md 141=.pure/\md 142=.pure/\md 143=.pure/\md 144=.pure/\md 145=.pure/\md 146=.pure/\md 147=.pure/\md 148=.pure/\md 149=.pure/\md 150=.pure/\md 151=.pure/\md 152=.pure/\md 153=.pure/\md 154=.pure/\md 155=.pure/\md 156=.pure/\md 157=.pure/\md 158=.pure/\md 159=.pure/\md 160=.pure/\md 161=.pure/\md 162=.pure/\md 163=.pure/\md 164=.pure/\md 165=.heap/\md 166=.pure/\md 167=.pure/\md 168=.heap/\md 169=.heap/\md 170=.pure/\md 171=.pure/\md 172=.pure/\md 173=.pure/\md 174=.pure/\md 175=.pure/\md 176=.pure/\md 177=.pure/\md 178=.pure/\md 179=.pure/\md 180=.pure/\md 181=.pure/\md 182=.pure/\md 183=.pure/\md 184=.pure/\md 185=.pure/\md 186=.heap/\md 187=.pure/\md 188=.pure/\md 189=.pure/\md 190=.pure/\md 191=.heap/\md 192=.heap/\md 193=.pure/\md 194=.pure/\md 195=.pure/\md 196=.heap/\md 197=.heap/\md 198=.heap/\md 199=.heap/\md 200=.heap/\md 201=.heap/\md 202=.heap/\md 203=.heap/\md 204=.heap/\md 205=.heap/\md 206=.pure/\md 207=.pure/\md 208=.heap/\md 209=.pure/\md 210=.heap/\md 211=.heap/\md 212=.heap/\md 213=.heap:=
 ⟨rfl,rfl,rfl,rfl,rfl,rfl,rfl,rfl,rfl,rfl,rfl,rfl,rfl,rfl,rfl,rfl,rfl,rfl,rfl,rfl,rfl,rfl,rfl,rfl,rfl,rfl,rfl,rfl,rfl,rfl,rfl,rfl,rfl,rfl,rfl,rfl,rfl,rfl,rfl,rfl,rfl,rfl,rfl,rfl,rfl,rfl,rfl,rfl,rfl,rfl,rfl,rfl,rfl,rfl,rfl,rfl,rfl,rfl,rfl,rfl,rfl,rfl,rfl,rfl,rfl,rfl,rfl,rfl,rfl,rfl,rfl,rfl,rfl,rfl,rfl,rfl,rfl,rfl,rfl,rfl,rfl,rfl,rfl,rfl,rfl,rfl,rfl,rfl,rfl,rfl,rfl,rfl,rfl,rfl,rfl,rfl,rfl,rfl,rfl,rfl,rfl,rfl,rfl,rfl,rfl,rfl,rfl,rfl,rfl,rfl,rfl,rfl,rfl,rfl,rfl,rfl,rfl,rfl,rfl,rfl,rfl,rfl,rfl,rfl,rfl,rfl,rfl,rfl,rfl,rfl,rfl,rfl,rfl,rfl,rfl,rfl,rfl,rfl,rfl,rfl,rfl,rfl,rfl,rfl,rfl,rfl,rfl,rfl,rfl,rfl,rfl,rfl,rfl,rfl,rfl,rfl,rfl,rfl,rfl,rfl,rfl,rfl,rfl,rfl,rfl,rfl,rfl,rfl,rfl,rfl,rfl,rfl,rfl,rfl,rfl,rfl,rfl,rfl,rfl,rfl,rfl,rfl,rfl,rfl,rfl,rfl,rfl,rfl,rfl,rfl,rfl,rfl,rfl,rfl,rfl,rfl,rfl,rfl,rfl,rfl,rfl,rfl,rfl,rfl,rfl,rfl,rfl,rfl,rfl,rfl,rfl,rfl⟩
end Go.Proofs.YtidginchkjhobaaGreat
