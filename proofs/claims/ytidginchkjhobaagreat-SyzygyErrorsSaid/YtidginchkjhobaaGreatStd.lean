/- Slices of words as the interpreter sees them. -/
import Derived.Test.YtidginchkjhobaaGreatEvRun
import Derived.Test.YtidginchkjhobaaGreatNum
import Derived.Test.YtidginchkjhobaaGreatTab
import Derived.Test.YtidginchkjhobaaGreatEvRmap
namespace Go.Ev
open Go.Num
theorem VE {a:Type}{p q:a->Prop}{x:a}(h:p x)(k:q x):∃x,p x/\q x:=⟨x,h,k⟩
def Ub (ws:List Nat):List (List PL):=ws.map fun w=>[.int .u32 (.ofNat w)]
def Wi (ws:List Nat):List (List DL):=ws.map fun w=>[.p (.int .u32 (.ofNat w))]
theorem AJ {a:List Nat}{i w:Nat}(h:a[i]? =some w):(Ub a)[i]? =some [.int .u32 (.ofNat w)]:=by simp[Ub,h]
theorem X2 {a:List Nat}{i w:Nat}(h:a[i]? =some w):(Wi a)[i]? =some [.p (.int .u32 (.ofNat w))]:=by simp[Wi,h]
theorem sC (a:List Nat):(Ub a).length=a.length:=by simp[Ub]
theorem Vd (a:List Nat):(Wi a).length=a.length:=by simp[Wi]
theorem xe (a:List Nat)(n:Nat):(Ub a).take n=Ub (a.take n):=by simp[Ub,List.map_take]
theorem mD (a:List Nat)(n:Nat):(Wi a).take n=Wi (a.take n):=by simp[Wi,List.map_take]
theorem mE (a:List Nat)(n:Nat):(Wi a).drop n=Wi (a.drop n):=by simp[Wi,List.map_drop]
theorem WH (a:List Nat)(i w:Nat):(Wi a).set i [.p (.int .u32 (.ofNat w))]=Wi (a.set i w):=by simp[Wi,List.map_set]
theorem U0 (n:Nat):List.replicate n [DL.p (.int .u32 (.ofNat 0))]=Wi (List.replicate n 0):=by simp[Wi]
theorem sA (a:List Nat):(Ub a).map (·.map DL.p)=Wi a:=by simp[Ub,Wi]
theorem VX (n:Nat)(h:HF):∀(a:List Nat),Xt (Xt (XA n h)) (Wi a)=some (Ub a)
 |[]=>rfl
 |w::a=>by
  have:=VX n h a;simp only[Wi,Ub]at this;simp only[Wi,Ub,Zr,Xt,jF,this]
theorem Uf (n:Nat)(h:HF):∀(a:List Nat),(Wi a).flatMap (fun c=>c.flatMap (W1 n h))=[]
 |[]=>rfl
 |w::a=>by
  have:=Uf n h a;simp only[Wi]at this;simp only[Wi,Zr,Yw,List.flatMap_nil,jC,this,ZS]
theorem uA (b:List Nat):(Wi b).all (fun c=>Nat.beq c.length 1)=true:=by
 rw[ZW];intro c a;simp only[Wi,ZQ]at a;obtain⟨w,-,rfl⟩:=a;rfl
def Sl (l:PL)(es:List (List PL)):Prop:=l=.Xp es\/(es=[]/\l=.XC)
section
variable {l:PL}{es:List (List PL)}{h:HF}{sz i n:Nat}{c:List PL}{k:IntKind}
theorem Sl.Xp:Sl (.Xp es) es:=.inl rfl
theorem Sl.nil:Sl .XC []:=.inr ⟨rfl,rfl⟩
theorem Sl.len (s:Sl l es):Qn [.one (.p l)]=some ⟨.one (.p (.int .i64 (.ofNat es.length))),[],[],[]⟩:=by
 rcases s with rfl|⟨rfl,rfl⟩<;>rfl
theorem Sl.idx (s:Sl l es)(a:es[i]? =some c)(b:c.length=sz):Vv sz h [.one (.p l),.one (.p (.int k (.ofNat i)))]=some ⟨.one (.p (.ref c)),[],[],[]⟩:=by
 rcases s with rfl|⟨rfl,rfl⟩
 ·simp only[Vv,a,pL b,cond_true,Vc.pure]
 ·simp at a
theorem Sl.chunks (s:Sl l es):Wp h (.p l)=some (es.map (·.map .p),[]):=by
 rcases s with rfl|⟨rfl,rfl⟩<;>rfl
end
abbrev Ui (l:PL)(ws:List Nat):Prop:=Sl l (Ub ws)
theorem Ui.len {l:PL}{a:List Nat}(s:Ui l a):Qn [.one (.p l)]=some ⟨.one (.p (.int .i64 (.ofNat a.length))),[],[],[]⟩:=by
 rw[Sl.len s,sC]
theorem Ui.idx {l:PL}{a:List Nat}{h:HF}{i w:Nat}{k:IntKind}(s:Ui l a)(b:a[i]? =some w):Vv 1 h [.one (.p l),.one (.p (.int k (.ofNat i)))]=some ⟨.one (.p (.ref [.int .u32 (.ofNat w)])),[],[],[]⟩:=
 Sl.idx s (AJ b) rfl
theorem AI {b:List Nat}:∀c∈Ub b,c.length=1:=by
 intro c a;simp only[Ub,ZQ]at a;obtain⟨w,-,rfl⟩:=a;rfl
theorem Ui.upto {l:PL}{a:List Nat}{n:Nat}(s:Ui l a)(b:n<=a.length):∃d,(∀h,WI 1 h (.p l) 0 (some n)=some (.p d,[]))/\Ui d (a.take n):=by
 rcases s with rfl|⟨e,rfl⟩
 ·refine⟨.Xp (Ub (a.take n)),fun h=> ?_,.Xp⟩;have g:RH 1 (Ub a)[0]? =true:=by
   cases i:(Ub a)[0]? with
   |none=>rfl
   |some c=>exact pL (AI c (Zn i))
  have h0:Nat.ble 0 n=true:=RK (Zt _);have f:Nat.ble n (Ub a).length=true:=RK (by rw[sC];exact b);simp only[WI,Option.getD_some,f,g,h0,YU,cond_true,Yb,xe]
 ·have :a=[]:=by simpa[Ub]using e
  subst this;have :n=0:=by simpa using b
  subst this;exact⟨.XC,fun _=>rfl,.nil⟩
abbrev aV (l:PL)(n:Nat):Prop:=Ui l (Xd n)
theorem aV.zero:aV .XC 0:=by show Sl .XC (Ub (Xd 0));rw[WU];exact .nil
def Ta (c:List PL)(z:Int):Prop:=∃m,c=[.bool (decide (z<0)),m]/\aV m z.natAbs
theorem wP {e n:Nat}{a:List Nat}{b:List Nat}(h0:a≠[])(f:a.length<1000000000000):WQ e 1 4 n (Wi a) b=some ⟨.one (.own n 0 0 a.length),[⟨false,0,1,Wi a,false,e⟩],[],b⟩:=by
 have c:Nat.ble ((Wi a).length*4) lim=true:=RK (by rw[Vd];unfold lim;omega);have d:Nat.ble (Wi a).length 9223372036854775807=true:=RK (by rw[Vd];omega);cases a with
 |nil=>exact absurd rfl h0
 |cons w a=>
  simp only[WQ,c,d,YU,cond_true];simp only[Wi,Zr,Zi,ZP]
def kH (z:Int):Int:=if z=0 then .ofNat 0 else if z<0 then .negSucc 0 else .ofNat 1
def Sm (z:Int):Prop:=(Xd z.natAbs).length<100000000000
theorem Sb {n:Nat}:(Xd n).length=1↔0<n/\n<4294967296:=by
 by_cases h:n=0
 ·subst h;rw[WU];simp
 ·rw[Uu h];by_cases a:n / 4294967296=0
  ·rw[a,WU];simp;omega
  ·rw[Uu a];simp;omega
theorem Px {n:Nat}(h:0<n)(a:n<4294967296):Xd n=[n]:=by
 rw[Uu (by omega),show n / 4294967296=0 by omega,WU,Zg a]
theorem WV {n:Nat}:(Xd n).length=0↔n=0:=by
 by_cases h:n=0
 ·subst h;rw[WU];simp
 ·rw[Uu h];simp[h]
theorem Ta.len {c:List PL}{z:Int}(h:Ta c z):∃n m,c=[.bool n,m]:=by
 obtain⟨m,rfl,-⟩:=h;exact⟨_,m,rfl⟩
end Go.Ev
namespace Go.Proofs.YtidginchkjhobaaGreat
open Go.Ev
def zk (n:Nat):List Nat->Bool
 |[]=>false
 |x::xs=>bif Nat.beq n x then true else zk n xs
def DA:List Nat:=[131,132,165,169,186,198,199,200,201,202,203,204,205,208,210,211,212,213,168,120,196,197,192,191]
def md (f:Nat):Ev.Mode:=bif zk f DA then .heap else .pure
noncomputable def XV:Nat->Option Vb:=dM [186] X
structure Std (B:Xs):Prop where
 mode:B.E0.mode=md
 Wa:∀f xf,XV f=some xf->B.X f=some xf
theorem Std.Xj {B:Xs}(h:Std B):X1 B fun E _=>E.mode=md:=by
 have:=X1.mode (B:=B)
 rwa[h.mode]at this
theorem X5:md 2=.pure/\md 3=.pure/\md 4=.pure/\md 5=.pure/\md 6=.pure/\md 7=.pure/\md 8=.pure/\md 9=.pure/\md 10=.pure/\md 11=.pure/\md 12=.pure/\md 13=.pure/\md 14=.pure/\md 15=.pure/\md 16=.pure/\md 17=.pure/\md 18=.pure/\md 19=.pure/\md 20=.pure/\md 21=.pure/\md 22=.pure/\md 23=.pure/\md 24=.pure/\md 25=.pure/\md 26=.pure/\md 27=.pure/\md 28=.pure/\md 29=.pure/\md 30=.pure/\md 31=.pure/\md 32=.pure/\md 33=.pure/\md 34=.pure/\md 35=.pure/\md 36=.pure/\md 37=.pure/\md 38=.pure/\md 39=.pure/\md 40=.pure/\md 41=.pure/\md 42=.pure/\md 43=.pure/\md 44=.pure/\md 45=.pure/\md 46=.pure/\md 47=.pure/\md 48=.pure/\md 49=.pure/\md 50=.pure/\md 51=.pure/\md 52=.pure/\md 53=.pure/\md 54=.pure/\md 55=.pure/\md 56=.pure/\md 57=.pure/\md 58=.pure/\md 59=.pure/\md 60=.pure/\md 61=.pure/\md 62=.pure/\md 63=.pure/\md 64=.pure/\md 65=.pure/\md 66=.pure/\md 67=.pure/\md 68=.pure/\md 69=.pure/\md 70=.pure/\md 71=.pure/\md 72=.pure/\md 73=.pure/\md 74=.pure/\md 75=.pure/\md 76=.pure/\md 77=.pure/\md 78=.pure/\md 79=.pure/\md 80=.pure/\md 81=.pure/\md 82=.pure/\md 83=.pure/\md 84=.pure/\md 85=.pure/\md 86=.pure/\md 87=.pure/\md 88=.pure/\md 89=.pure/\md 90=.pure/\md 91=.pure/\md 92=.pure/\md 93=.pure/\md 94=.pure/\md 95=.pure/\md 96=.pure/\md 97=.pure/\md 98=.pure/\md 99=.pure/\md 100=.pure/\md 101=.pure/\md 102=.pure/\md 103=.pure/\md 104=.pure/\md 105=.pure/\md 106=.pure/\md 107=.pure/\md 108=.pure/\md 109=.pure/\md 110=.pure/\md 111=.pure/\md 112=.pure/\md 113=.pure/\md 114=.pure/\md 115=.pure/\md 116=.pure/\md 117=.pure/\md 118=.pure/\md 119=.pure/\md 120=.heap/\md 121=.pure/\md 122=.pure/\md 123=.pure/\md 124=.pure/\md 125=.pure/\md 126=.pure/\md 127=.pure/\md 128=.pure/\md 129=.pure/\md 130=.pure/\md 131=.heap/\md 132=.heap/\md 133=.pure/\md 134=.pure/\md 135=.pure/\md 136=.pure/\md 137=.pure/\md 138=.pure/\md 139=.pure/\md 140=.pure/\md 141=.pure/\md 142=.pure/\md 143=.pure/\md 144=.pure/\md 145=.pure/\md 146=.pure/\md 147=.pure/\md 148=.pure/\md 149=.pure/\md 150=.pure/\md 151=.pure/\md 152=.pure/\md 153=.pure/\md 154=.pure/\md 155=.pure/\md 156=.pure/\md 157=.pure/\md 158=.pure/\md 159=.pure/\md 160=.pure/\md 161=.pure/\md 162=.pure/\md 163=.pure/\md 164=.pure/\md 165=.heap/\md 166=.pure/\md 167=.pure/\md 168=.heap/\md 169=.heap/\md 170=.pure/\md 171=.pure/\md 172=.pure/\md 173=.pure/\md 174=.pure/\md 175=.pure/\md 176=.pure/\md 177=.pure/\md 178=.pure/\md 179=.pure/\md 180=.pure/\md 181=.pure/\md 182=.pure/\md 183=.pure/\md 184=.pure/\md 185=.pure/\md 186=.heap/\md 187=.pure/\md 188=.pure/\md 189=.pure/\md 190=.pure/\md 191=.heap/\md 192=.heap/\md 193=.pure/\md 194=.pure/\md 195=.pure/\md 196=.heap/\md 197=.heap/\md 198=.heap/\md 199=.heap/\md 200=.heap/\md 201=.heap/\md 202=.heap/\md 203=.heap/\md 204=.heap/\md 205=.heap/\md 206=.pure/\md 207=.pure/\md 208=.heap/\md 209=.pure/\md 210=.heap/\md 211=.heap/\md 212=.heap/\md 213=.heap:=
 ⟨rfl,rfl,rfl,rfl,rfl,rfl,rfl,rfl,rfl,rfl,rfl,rfl,rfl,rfl,rfl,rfl,rfl,rfl,rfl,rfl,rfl,rfl,rfl,rfl,rfl,rfl,rfl,rfl,rfl,rfl,rfl,rfl,rfl,rfl,rfl,rfl,rfl,rfl,rfl,rfl,rfl,rfl,rfl,rfl,rfl,rfl,rfl,rfl,rfl,rfl,rfl,rfl,rfl,rfl,rfl,rfl,rfl,rfl,rfl,rfl,rfl,rfl,rfl,rfl,rfl,rfl,rfl,rfl,rfl,rfl,rfl,rfl,rfl,rfl,rfl,rfl,rfl,rfl,rfl,rfl,rfl,rfl,rfl,rfl,rfl,rfl,rfl,rfl,rfl,rfl,rfl,rfl,rfl,rfl,rfl,rfl,rfl,rfl,rfl,rfl,rfl,rfl,rfl,rfl,rfl,rfl,rfl,rfl,rfl,rfl,rfl,rfl,rfl,rfl,rfl,rfl,rfl,rfl,rfl,rfl,rfl,rfl,rfl,rfl,rfl,rfl,rfl,rfl,rfl,rfl,rfl,rfl,rfl,rfl,rfl,rfl,rfl,rfl,rfl,rfl,rfl,rfl,rfl,rfl,rfl,rfl,rfl,rfl,rfl,rfl,rfl,rfl,rfl,rfl,rfl,rfl,rfl,rfl,rfl,rfl,rfl,rfl,rfl,rfl,rfl,rfl,rfl,rfl,rfl,rfl,rfl,rfl,rfl,rfl,rfl,rfl,rfl,rfl,rfl,rfl,rfl,rfl,rfl,rfl,rfl,rfl,rfl,rfl,rfl,rfl,rfl,rfl,rfl,rfl,rfl,rfl,rfl,rfl,rfl,rfl,rfl,rfl,rfl,rfl,rfl,rfl,rfl,rfl,rfl,rfl,rfl,rfl⟩
end Go.Proofs.YtidginchkjhobaaGreat
