/- Slices of words as the interpreter sees them. -/
import Derived.Test.YtidginchkjhobaaGreatEvRun
import Derived.Test.YtidginchkjhobaaGreatTab
import Derived.Test.YtidginchkjhobaaGreatEvRmap
import Derived.Calls
namespace Go.Ev
open Go.Proofs.YtidginchkjhobaaGreat
theorem VW {a:Type}{p q:a->Prop}{x}(h:p x)(k:q x):∃x,p x/\q x:=⟨x,h,k⟩
def UI (ws:P'):Z':=ws.map fun w=>[.int .u32 (.ofNat w)]
def Wn (ws:P'):K':=ws.map fun w=>[.p (.int .u32 (.ofNat w))]
theorem Ga {a:P'}{i w:Nat}(h:a[i]? =some w):(UI a)[i]? =some [.int .u32 (.ofNat w)]:=by simp[UI,h]
theorem X7 {a:P'}{i w:Nat}(h:a[i]? =some w):(Wn a)[i]? =some [.p (.int .u32 (.ofNat w))]:=by simp[Wn,h]
theorem xZ (a):(UI a).length=a.length:=by simp[UI]
theorem VE (a):(Wn a).length=a.length:=by simp[Wn]
theorem Cu (a)(n):(UI a).take n=UI (a.take n):=by simp[UI,List.map_take]
theorem rJ (a)(n):(Wn a).take n=Wn (a.take n):=by simp[Wn,List.map_take]
theorem rK (a)(n):(Wn a).drop n=Wn (a.drop n):=by simp[Wn,List.map_drop]
theorem W3 (a)(i w):(Wn a).set i [.p (.int .u32 (.ofNat w))]=Wn (a.set i w):=by simp[Wn,List.map_set]
theorem Ty (n):List.replicate n [DL.p (.int .u32 (.ofNat 0))]=Wn (List.replicate n 0):=by simp[Wn]
theorem xY (a):(UI a).map (·.map DL.p)=Wn a:=by simp[UI,Wn]
theorem Uv (n)(h):∀a,Xw (Xw (XG n h)) (Wn a)=some (UI a)
 |[]=>rfl
 |w::a=>by
  have:=Uv n h a;simp only[Wn,UI]at this;simp only[Wn,UI,Zt,Xw,oa,this]
theorem UK (n)(h):∀a,(Wn a).flatMap (fun c=>c.flatMap (Vt n h))=[]
 |[]=>rfl
 |w::a=>by
  have:=UK n h a;simp only[Wn]at this;simp only[Wn,Zt,List.flatMap_cons,List.flatMap_nil,nY,this,ZJ]
theorem zO (b):(Wn b).all (fun c=>Nat.beq c.length 1)=true:=by
 rw[ZH];intro c a;simp only[Wn,ZM]at a;obtain⟨w,-,rfl⟩:=a;rfl
def Sl (l:PL)(es:Z'):Prop:=l=.Xl es\/(es=[]/\l=.Xp)
section
variable {l:PL}{es:Z'}{h:HF}{sz i n:Nat}{c:N'}{k:IntKind}
theorem Sl.Xl:Sl (.Xl es) es:=.inl rfl
theorem Sl.nil:Sl .Xp []:=.inr ⟨rfl,rfl⟩
theorem Sl.len (s:Sl l es):OE [.one (.p l)]=some ⟨.one (.p (.int .i64 (.ofNat es.length))),[],[],[]⟩:=by
 rcases s with rfl|⟨rfl,rfl⟩<;>rfl
theorem Sl.idx (s:Sl l es)(a:es[i]? =some c)(b:c.length=sz):VX sz h [.one (.p l),.one (.p (.int k (.ofNat i)))]=some ⟨.one (.p (.ref c)),[],[],[]⟩:=by
 rcases s with rfl|⟨rfl,rfl⟩
 ·simp only[VX,a,zJ b,cond_true,Vk.pure]
 ·simp at a
theorem Sl.chunks (s:Sl l es):WH h (.p l)=some (es.map (·.map .p),[]):=by
 rcases s with rfl|⟨rfl,rfl⟩<;>rfl
end
abbrev UB (l:PL)(ws:P'):Prop:=Sl l (UI ws)
theorem UB.len {l}{a}(s:UB l a):OE [.one (.p l)]=some ⟨.one (.p (.int .i64 (.ofNat a.length))),[],[],[]⟩:=by
 rw[Sl.len s,xZ]
theorem UB.idx {l:PL}{a:P'}{h:HF}{i w:Nat}{k:IntKind}(s:UB l a)(b:a[i]? =some w):VX 1 h [.one (.p l),.one (.p (.int k (.ofNat i)))]=some ⟨.one (.p (.ref [.int .u32 (.ofNat w)])),[],[],[]⟩:=
 Sl.idx s (Ga b) rfl
theorem F9 {b}:∀c∈UI b,c.length=1:=by
 intro c a;simp only[UI,ZM]at a;obtain⟨w,-,rfl⟩:=a;rfl
theorem UB.upto {l}{a}{n}(s:UB l a)(b:n<=a.length):∃d,(∀h,WN 1 h (.p l) 0 (some n)=some (.p d,[]))/\UB d (a.take n):=by
 rcases s with rfl|⟨e,rfl⟩
 ·refine⟨.Xl (UI (a.take n)),fun h=> ?_,.Xl⟩;have g:QF 1 (UI a)[0]? =true:=by
   cases i:(UI a)[0]? with
   |none=>rfl
   |some c=>exact zJ (F9 c (Zh i))
  have h0:Nat.ble 0 n=true:=PU (Zw _);have f:Nat.ble n (UI a).length=true:=PU (by rw[xZ];exact b);simp only[WN,Option.getD_some,f,g,h0,Bool.and_self,cond_true,Z7,Cu]
 ·have :a=[]:=by simpa[UI]using e
  subst this;have :n=0:=by simpa using b
  subst this;exact⟨.Xp,fun _=>rfl,.nil⟩
abbrev dM (l:PL)(n:Nat):Prop:=UB l (Xe n)
theorem dM.zero:dM .Xp 0:=by show Sl .Xp (UI (Xe 0));rw[Vc];exact .nil
def Tc (c:N')(z:Int):Prop:=∃m,c=[.bool (decide (z<0)),m]/\dM m z.natAbs
theorem Cc {e n}{a}{b}(h0:a≠[])(f:a.length<10000000000000):W9 e 1 4 n (Wn a) b=some ⟨.one (.own n 0 0 a.length),[⟨false,0,1,Wn a,false,e⟩],[],b⟩:=by
 have c:Nat.ble ((Wn a).length*4) lim=true:=PU (by rw[VE];unfold lim;omega);have d:Nat.ble (Wn a).length 9223372036854775807=true:=PU (by rw[VE];omega);cases a with
 |nil=>exact absurd rfl h0
 |cons w a=>
  simp only[W9,c,d,Bool.and_self,cond_true];simp only[Wn,Zt,Zj,ZP]
def mi (z:Int):Int:=if z=0 then .ofNat 0 else if z<0 then .negSucc 0 else .ofNat 1
def Sm (z:Int):Prop:=(Xe z.natAbs).length<2000000000000
theorem Sg {n}:(Xe n).length=1↔0<n/\n<4294967296:=by
 by_cases h:n=0
 ·subst h;rw[Vc];simp
 ·rw[UZ h];by_cases a:n / 4294967296=0
  ·rw[a,Vc];simp;omega
  ·rw[UZ a];simp;omega
theorem OO {n}(h:0<n)(a:n<4294967296):Xe n=[n]:=by
 rw[UZ (by omega),show n / 4294967296=0 by omega,Vc,Zi a]
theorem Ui {n}:(Xe n).length=0↔n=0:=by
 by_cases h:n=0
 ·subst h;rw[Vc];simp
 ·rw[UZ h];simp[h]
theorem Tc.len {c}{z}(h:Tc c z):∃n m,c=[.bool n,m]:=by
 obtain⟨m,rfl,-⟩:=h;exact⟨_,m,rfl⟩
def qw (n:Nat):P'->Bool
 |[]=>false
 |x::xs=>bif Nat.beq n x then true else qw n xs
def JK:P':=[131,132,165,169,186,198,199,200,201,202,203,204,205,208,210,211,212,213,168,120,196,197,192,191,46,47]
def IL:P':=[84]
def Hy:P':=[41,16,44,27]
def md (f:Nat):Ev.Mode:=bif qw f JK then .heap else bif qw f IL then .view else bif qw f Hy then .fresh else .pure
noncomputable def XV:Nat->Option Vu:=gL [186] X
structure Std (B:Xq):Prop where
 mode:B.E0.mode=md
 Wa:∀f xf,XV f=some xf->B.X f=some xf
theorem Std.Xk {B}(h:Std B):XT B fun E _=>E.mode=md:=by
 have:=XT.mode (B:=B)
 rwa[h.mode]at this
theorem X3:md 2=.pure/\md 3=.pure/\md 4=.pure/\md 5=.pure/\md 6=.pure/\md 7=.pure/\md 8=.pure/\md 9=.pure/\md 10=.pure/\md 11=.pure/\md 12=.pure/\md 13=.pure/\md 14=.pure/\md 15=.pure/\md 16=.fresh/\md 17=.pure/\md 18=.pure/\md 19=.pure/\md 20=.pure/\md 21=.pure/\md 22=.pure/\md 23=.pure/\md 24=.pure/\md 25=.pure/\md 26=.pure/\md 27=.fresh/\md 28=.pure/\md 29=.pure/\md 30=.pure/\md 31=.pure/\md 32=.pure/\md 33=.pure/\md 34=.pure/\md 35=.pure/\md 36=.pure/\md 37=.pure/\md 38=.pure/\md 39=.pure/\md 40=.pure/\md 41=.fresh/\md 42=.pure/\md 43=.pure/\md 44=.fresh/\md 45=.pure/\md 46=.heap/\md 47=.heap/\md 48=.pure/\md 49=.pure/\md 50=.pure/\md 51=.pure/\md 52=.pure/\md 53=.pure/\md 54=.pure/\md 55=.pure/\md 56=.pure/\md 57=.pure/\md 58=.pure/\md 59=.pure/\md 60=.pure/\md 61=.pure/\md 62=.pure/\md 63=.pure/\md 64=.pure/\md 65=.pure/\md 66=.pure/\md 67=.pure/\md 68=.pure/\md 69=.pure/\md 70=.pure/\md 71=.pure/\md 72=.pure/\md 73=.pure/\md 74=.pure/\md 75=.pure/\md 76=.pure/\md 77=.pure/\md 78=.pure/\md 79=.pure/\md 80=.pure/\md 81=.pure/\md 82=.pure/\md 83=.pure/\md 84=.view/\md 85=.pure/\md 86=.pure/\md 87=.pure/\md 88=.pure/\md 89=.pure/\md 90=.pure/\md 91=.pure/\md 92=.pure/\md 93=.pure/\md 94=.pure/\md 95=.pure/\md 96=.pure/\md 97=.pure/\md 98=.pure/\md 99=.pure/\md 100=.pure/\md 101=.pure/\md 102=.pure/\md 103=.pure/\md 104=.pure/\md 105=.pure/\md 106=.pure/\md 107=.pure/\md 108=.pure/\md 109=.pure/\md 110=.pure/\md 111=.pure/\md 112=.pure/\md 113=.pure/\md 114=.pure/\md 115=.pure/\md 116=.pure/\md 117=.pure/\md 118=.pure/\md 119=.pure/\md 120=.heap/\md 121=.pure/\md 122=.pure/\md 123=.pure/\md 124=.pure/\md 125=.pure/\md 126=.pure/\md 127=.pure/\md 128=.pure/\md 129=.pure/\md 130=.pure/\md 131=.heap/\md 132=.heap/\md 133=.pure/\md 134=.pure/\md 135=.pure/\md 136=.pure/\md 137=.pure/\md 138=.pure/\md 139=.pure/\md 140=.pure/\md 141=.pure/\md 142=.pure/\md 143=.pure/\md 144=.pure/\md 145=.pure/\md 146=.pure/\md 147=.pure/\md 148=.pure/\md 149=.pure/\md 150=.pure/\md 151=.pure/\md 152=.pure/\md 153=.pure/\md 154=.pure/\md 155=.pure/\md 156=.pure/\md 157=.pure/\md 158=.pure/\md 159=.pure/\md 160=.pure/\md 161=.pure/\md 162=.pure/\md 163=.pure/\md 164=.pure/\md 165=.heap/\md 166=.pure/\md 167=.pure/\md 168=.heap/\md 169=.heap/\md 170=.pure/\md 171=.pure/\md 172=.pure/\md 173=.pure/\md 174=.pure/\md 175=.pure/\md 176=.pure/\md 177=.pure/\md 178=.pure/\md 179=.pure/\md 180=.pure/\md 181=.pure/\md 182=.pure/\md 183=.pure/\md 184=.pure/\md 185=.pure/\md 186=.heap/\md 187=.pure/\md 188=.pure/\md 189=.pure/\md 190=.pure/\md 191=.heap/\md 192=.heap/\md 193=.pure/\md 194=.pure/\md 195=.pure/\md 196=.heap/\md 197=.heap/\md 198=.heap/\md 199=.heap/\md 200=.heap/\md 201=.heap/\md 202=.heap/\md 203=.heap/\md 204=.heap/\md 205=.heap/\md 206=.pure/\md 207=.pure/\md 208=.heap/\md 209=.pure/\md 210=.heap/\md 211=.heap/\md 212=.heap/\md 213=.heap:=
 ⟨rfl,rfl,rfl,rfl,rfl,rfl,rfl,rfl,rfl,rfl,rfl,rfl,rfl,rfl,rfl,rfl,rfl,rfl,rfl,rfl,rfl,rfl,rfl,rfl,rfl,rfl,rfl,rfl,rfl,rfl,rfl,rfl,rfl,rfl,rfl,rfl,rfl,rfl,rfl,rfl,rfl,rfl,rfl,rfl,rfl,rfl,rfl,rfl,rfl,rfl,rfl,rfl,rfl,rfl,rfl,rfl,rfl,rfl,rfl,rfl,rfl,rfl,rfl,rfl,rfl,rfl,rfl,rfl,rfl,rfl,rfl,rfl,rfl,rfl,rfl,rfl,rfl,rfl,rfl,rfl,rfl,rfl,rfl,rfl,rfl,rfl,rfl,rfl,rfl,rfl,rfl,rfl,rfl,rfl,rfl,rfl,rfl,rfl,rfl,rfl,rfl,rfl,rfl,rfl,rfl,rfl,rfl,rfl,rfl,rfl,rfl,rfl,rfl,rfl,rfl,rfl,rfl,rfl,rfl,rfl,rfl,rfl,rfl,rfl,rfl,rfl,rfl,rfl,rfl,rfl,rfl,rfl,rfl,rfl,rfl,rfl,rfl,rfl,rfl,rfl,rfl,rfl,rfl,rfl,rfl,rfl,rfl,rfl,rfl,rfl,rfl,rfl,rfl,rfl,rfl,rfl,rfl,rfl,rfl,rfl,rfl,rfl,rfl,rfl,rfl,rfl,rfl,rfl,rfl,rfl,rfl,rfl,rfl,rfl,rfl,rfl,rfl,rfl,rfl,rfl,rfl,rfl,rfl,rfl,rfl,rfl,rfl,rfl,rfl,rfl,rfl,rfl,rfl,rfl,rfl,rfl,rfl,rfl,rfl,rfl,rfl,rfl,rfl,rfl,rfl,rfl,rfl,rfl,rfl,rfl,rfl,rfl⟩
open Go
theorem Cb {e:Type}:∀(a:Ask e) (w:World),w.drawn<=(w.ask a).2.drawn:=by
 intro a;induction a with
 |done a=>intro w;exact Zf _
 |ask d b k c=>
  intro w;unfold World.ask;simp only[];split
  ·exact c _ _
  ·exact Zy (Nat.le_succ w.drawn) (c _ {w with drawn:=w.drawn+1})
theorem dY (w:World)(c:Sys):w.drawn<=(w.sys c).2.drawn:=by
 unfold World.sys;have h:=Cb (Kernel.perform c w.os) w;generalize w.ask (Kernel.perform c w.os)=x at h;obtain⟨⟨r,a⟩,w1⟩:=x;cases r<;>first |exact Zf _|exact h
theorem gB {p:Program}{w c:World}{b:Addr}{u:TypeId}{k:Addr}{v:Value}{a:Bool}{l:List Addr}(h:w.viewStore p b u k v a=.ok (c,l)):c.drawn=w.drawn:=by
 unfold World.viewStore at h;simp only[bind,Except.bind,pure,Except.pure]at h
 repeat' split at h
 all_goals first |cases h;rfl|cases h
theorem Np {p:Program}{w c:World}{a:Addr}{v:Value}{b:Bool}{l:List Addr}(h:w.farStore p a v b=.ok (c,l)):c.drawn=w.drawn:=by
 unfold World.farStore at h;split at h
 ·split at h
  ·rename_i e;cases h;exact gB e
  ·cases h
 ·cases h
def GO {α:Type}:Result α->World
 | .ok _ w=>w
 | .halt _ w=>w
theorem eh {d:Type}(p:Program):∀(s:Sem d) (w:World),w.drawn<=(GO (s.run p w)).drawn:=by
 intro s;induction s with
 |pure a=>intro w;exact Zf _
 |load m a k b=>
  intro w;unfold Sem.run;split
  ·exact b _ _
  ·split
   ·exact b _ _
   ·exact Zf _
 |store m a v k b=>
  intro w;cases v<;>simp only[Sem.run];all_goals first
   |exact Zf _
   |(split
     ·split
      ·exact Zf _
      ·exact b (w.setCell a _)
     ·split
      ·rename_i h;have:=Np h;rw[<-this];exact b _
      ·exact Zf _)
 |new o k b=>intro w;exact b _ {w with heap:=w.heap.push o}
 |shape r k b=>intro w;exact b _ _
 |freeze a n k b=>
  intro w;have :(w.freeze a n).drawn=w.drawn:=by unfold World.freeze;split<;>rfl
  rw[<-this];exact b _
 |frozen a k b=>intro w;exact b _ _
 |getObj r k b=>
  intro w;unfold Sem.run;split
  ·exact Zf _
  ·exact b _ _
  ·exact Zf _
 |setObj r o k b=>
  intro w;unfold Sem.run;split
  ·exact Zf _
  ·exact b {w with heap:=w.heap.setIfInBounds r o}
  ·exact Zf _
 |choose q k b=>
  intro w;unfold Sem.run;split
  ·exact b _ _
  ·exact Zy (Nat.le_succ w.drawn) (b _ {w with drawn:=w.drawn+1})
 |sys c k b=>intro w;exact Zy (dY w c) (b _ _)
 |program k b=>intro w;exact b _ _
 |mark m k b=>intro w;exact b _
 |halt h=>intro w;exact Zf _
theorem Um {d:Type}(p:Program):∀(s:Sem d) (w:World) (es:Array Event),w.drawn<=(GO (s.runT p w es).1).drawn:=by
 intro s;induction s with
 |pure a=>intro w es;exact Zf _
 |load m a k b=>
  intro w es;unfold Sem.runT;split
  ·exact b _ _ _
  ·split
   ·exact b _ _ _
   ·exact Zf _
 |store m a v k b=>
  intro w es;cases v<;>simp only[Sem.runT];all_goals first
   |exact Zf _
   |(split
     ·split
      ·exact Zf _
      ·exact b (w.setCell a _) _
     ·split
      ·rename_i h;have:=Np h;rw[<-this];exact b _ _
      ·exact Zf _)
 |new o k b=>intro w es;exact b _ {w with heap:=w.heap.push o} _
 |shape r k b=>intro w es;exact b _ _ _
 |freeze a n k b=>
  intro w es;have :(w.freeze a n).drawn=w.drawn:=by unfold World.freeze;split<;>rfl
  rw[<-this];exact b _ _
 |frozen a k b=>intro w es;exact b _ _ _
 |getObj r k b=>
  intro w es;unfold Sem.runT;split
  ·exact Zf _
  ·exact b _ _ _
  ·exact Zf _
 |setObj r o k b=>
  intro w es;unfold Sem.runT;split
  ·exact Zf _
  ·exact b {w with heap:=w.heap.setIfInBounds r o} _
  ·exact Zf _
 |choose q k b=>
  intro w es;unfold Sem.runT;split
  ·exact b _ _ _
  ·exact Zy (Nat.le_succ w.drawn) (b _ {w with drawn:=w.drawn+1} _)
 |sys c k b=>intro w es;exact Zy (dY w c) (b _ _ _)
 |program k b=>intro w es;exact b _ _ _
 |mark m k b=>intro w es;exact b _ _
 |halt h=>intro w es;exact Zf _
theorem Tj {c:Type}{p:Program}{s:Sem c}{w b:World}{a:c}(h:s.run p w=.ok a b):w.drawn<=b.drawn:=by
 have:=eh p s w;rw[h]at this;exact this
theorem run_halt {c:Type}{p:Program}{s:Sem c}{w b:World}{a:Halt}(h:s.run p w=.halt a b):w.drawn<=b.drawn:=by
 have:=eh p s w;rw[h]at this;exact this
theorem GF {d:Type}{p:Program}{s:Sem d}{w c:World}{a:d}{es b:Array Event}(h:s.runT p w es=(.ok a c,b)):w.drawn<=c.drawn:=by
 have:=Um p s w es;rw[h]at this;exact this
theorem ei {d:Type}{p:Program}{s:Sem d}{w c:World}{a:Halt}{es b:Array Event}(h:s.runT p w es=(.halt a c,b)):w.drawn<=c.drawn:=by
 have:=Um p s w es;rw[h]at this;exact this
def gW:GStep->World
 | .go _ w _| .comm _ _ _ _ w _| .spawn _ _ w _| .count _ w _| .timer _ _ w _| .alone _ _ w _| .newcoro _ _ _ w _| .coroswitch _ _ _ w _| .collect _ w _| .watch _ w _| .ended _ w _=>w
theorem RL (es)(g:GStep):gW (g.after es)=gW g:=by cases g<;>rfl
abbrev Fw (w:World)(g:GStep):Prop:=w.drawn<=(gW g).drawn
theorem ER {w}{c:Prop}[Decidable c]{a b:GStep}(d:Fw w a)(e:Fw w b):Fw w (if c then a else b):=by
 split
 ·exact d
 ·exact e
theorem xF (w:World)(a:Nat)(t:ByteArray)(o:Outcome):Fw w (endWith w a t o):=by
 unfold endWith;have h:=dY w (.write a t);generalize w.sys (.write a t)=x at h;obtain⟨r,w1⟩:=x;cases r<;>first |exact h|(simp only[];split<;>exact h)
theorem Nu (p)(a)(c:Frame)(b:List Frame)(d:Option Dying)(v)(w):Fw w (doReturn p a c b d v w):=by
 unfold doReturn
 repeat' split
 all_goals exact Zf _
theorem Ns (a:Frame)(m:String)(w):Fw w (endThrow a m w):=Zf _
theorem Nt (p)(a:Frame)(v)(w):Fw w (endPrinting p a v w):=by
 unfold endPrinting;simp only[];split<;>exact Zf _
theorem gq (p:Program)(b:Frame)(a:List Frame)(d:Option Dying)(m:String)(w:World):Fw w (endFatal p b a d m w):=by
 unfold endFatal;simp only[];split
 ·rename_i h;exact Tj h
 ·rename_i h;exact run_halt h
 ·rename_i h;exact run_halt h
theorem vG (p:Program)(a:Frame)(d:Dying)(f:Fatal)(w:World):Fw w (writeOn p a d f w):=by
 unfold writeOn;simp only[];split
 ·exact Zf _
 ·split
  ·rename_i h;exact GF h
  ·rename_i h;exact ei h
  ·rename_i h;exact ei h
  ·rename_i h;exact ei h
theorem J9 (p:Program)(c:Frame)(d:Dying)(w:World):Fw w (die p c d w):=by
 unfold die;split
 ·exact vG ..
 ·split
  ·split
   ·exact Zf _
   ·exact xF ..
  ·simp only[];split
   ·exact Zf _
   ·split
    ·rename_i h;exact Tj h
    ·rename_i h;exact run_halt h
   ·rename_i t b a _;have h:=Um p (invoke (.fn (.method a) #[]) #[.iface t b]) w #[];generalize (invoke (.fn (.method a) #[]) #[.iface t b]).runT p w #[]=x at h;obtain⟨r,es⟩:=x;simp only[Fw,RL];split<;>first |exact h|exact Zy h (Nt ..)|exact Zf _
   ·exact Zf _
theorem gI (p:Program)(c:Frame)(a:List Frame)(b:Option Dying)(d:Deferred)(w:World):Fw w (callDeferred p c a b d w):=by
 unfold callDeferred;refine ER (Zf _) ?_
 ·have h:=Um p (invoke d.target d.args) w #[];generalize (invoke d.target d.args).runT p w #[]=x at h;obtain⟨r,es⟩:=x;simp only[Fw,RL];split<;>first |exact h|(split<;>exact h)|exact Zy h (gq ..)
theorem Ab (p:Program)(a:Bool)(b:Frame)(d:List Frame)(e:Option Dying)(w:World):Fw w (unwind p a b d e w):=by
 unfold unwind;split
 ·have h:=Um p (Instr.takeDeferred ‹Nat›) w #[];generalize (Instr.takeDeferred ‹Nat›).runT p w #[]=x at h;obtain⟨r,es⟩:=x;simp only[Fw,RL];split<;>exact h
 ·exact gI ..
 ·split
  ·exact Zf _
  ·split
   ·exact Zf _
   ·split
    ·exact Zf _
    ·split
     ·split
      ·exact Zf _
      ·split
       ·rename_i h;exact Tj h
       ·rename_i h;exact run_halt h
       ·rename_i h;exact run_halt h
     ·split
      ·exact Nt ..
      ·exact Zf _
  ·split
   ·exact Nu ..
   ·rename_i c _;have h:=Um p (results c b.tmps) w #[];generalize (results c b.tmps).runT p w #[]=x at h;obtain⟨r,es⟩:=x;simp only[Fw,RL];split
    ·exact Zy h (Nu ..)
    ·exact h
    ·exact h
theorem Fb (p:Program)(fr:Frame)(cs:List Frame)(dy:Option Dying)(g:Nat)(w:World):Fw w (early p fr cs dy g w):=by
 have hn:∀w:World,Fw w (match w.heap[g]? with
  |some (.pending c elem)=>.go {frame:=fr,callers:=cs,status:=.running,dying:=dy} {w with heap:=w.heap.setIfInBounds g (.cells c elem)}
  | _ => .ended (.stuck "early: the variable does not wait" (fr.pos p)) w) := by
  intro w;split<;>exact Zf _
 unfold early;simp only[];split
 ·exact hn w
 ·split
  ·exact Zf _
  ·split
   ·exact hn w
   ·split
    ·exact hn w
    ·split
     ·exact Zf _
     ·exact Zf _
     ·exact Zf _
     ·exact hn w
     ·split
      ·exact Zf _
      ·split
       ·exact hn w
       ·split
        ·rename_i h;exact Zy (Tj h) (hn _)
        ·rename_i h;exact Tj h
        ·rename_i h;exact run_halt h
theorem PW (p:Program)(a:Bool)(d:Frame)(b:List Frame)(c:Option Dying)(s:Sem Next)(w:World):Fw w (stepG.apply p a d b c s w):=by
 unfold stepG.apply;have h:w.drawn<=(GO (if a=true then s.runT p w #[]else(s.run p w,#[])).1).drawn:=by
  split
  ·exact Um ..
  ·exact eh ..
 generalize (if a=true then s.runT p w #[]else(s.run p w,#[]))=x at h;obtain⟨r,es⟩:=x;simp only[Fw,RL];simp only[GO]at h;split<;>first
  |exact h
  |exact Zy h (gq ..)
  |exact Zy h (Fb ..)
  |exact Zy h (Ns ..)
  |exact Zy h (ER (Ns ..) (Zf _))
  |(split<;>first |exact h|exact Zy h (Ns ..))
theorem G8 (p)(a)(d:Frame)(b:List Frame)(c:Option Dying)(w):Fw w (stepG.oper p a d b c w):=by
 unfold stepG.oper;split
 ·exact Zf _
 ·split
  ·exact PW ..
  ·exact PW ..
theorem HE (p:Program)(main listen:Bool)(fr:Frame)(cs:List Frame)(dy:Option Dying)(w:World):Fw w (stepG.exec p main listen fr cs dy w):=by
 have leave:∀jump:Option Code,Fw w (match fr.roundOf with
   | none => if jump matches none | some .ret then .go { frame := { fr with mode := .returning }, callers := cs, status := .running, dying := dy } w else .ended (.stuck "exit, goto: no such block or label" (fr.pos p)) w
   |some l=>GStep.after (seen p fr.fn ((Instr.endRound l jump).runT p w #[]).2) (match((Instr.endRound l jump).runT p w #[]).1 with
     | .ok v w=>doReturn p main fr cs dy v w
     | .halt _ w => .ended (.stuck "range over a function: no such loop" (fr.pos p)) w)) := by
  intro jump;split
  ·split<;>exact Zf _
  ·rename_i l _;have h:=Um p (Instr.endRound l jump) w #[];simp only[Fw,RL];split
   ·rename_i e;rw[e]at h;exact Zy h (Nu ..)
   ·rename_i e;rw[e]at h;exact h
 unfold stepG.exec;simp only[];split
 ·exact leave none
 ·exact leave (some .ret)
 ·exact Zf _
 ·exact Zf _
 ·exact Zf _
 ·exact Zf _
 ·exact Zf _
 ·split<;>exact Zf _
 ·exact Zf _
 ·exact Zf _
 ·exact Zf _
 ·exact Zf _
 ·rename_i i k _;cases exitTo i k with
  |none=>exact leave (some (.exit i))
  |some t=>exact Zf _
 ·rename_i i k _;cases gotoIn i k with
  |none=>exact leave (some (.goto i))
  |some t=>exact Zf _
 ·rename_i f params assign body k _;have h:=Um p (Instr.enterLoop fr.fn fr.tmps params assign body fr.roundOf) w #[];simp only[Fw,RL];split
  ·rename_i e;rw[e]at h;exact Zy h (PW ..)
  ·rename_i e;rw[e]at h;exact h
 ·exact Zf _
 ·exact PW ..
 ·rename_i l k _;have h:=Um p (Instr.endLoop l) w #[];simp only[Fw,RL];split
  ·rename_i e;rw[e]at h;exact h
  ·rename_i e;rw[e]at h;exact h
  ·rename_i e;rw[e]at h;exact h
 ·exact Zf _
 ·exact PW ..
 ·rename_i row args _ _;cases Extern.next row with
  |none=>exact Zf _
  |some e=>exact PW ..
 ·split
  ·exact Zf _
  ·split
   ·rename_i h;exact Tj h
   ·rename_i h;exact run_halt h
 ·exact Zf _
 ·split
  ·exact G8 ..
  ·exact Zf _
theorem CQ (p)(b)(g:Goroutine)(w)(a):Fw w (stepG p b g w a):=by
 unfold stepG;simp only[];split
 ·exact J9 ..
 ·exact HE ..
 ·exact Ab ..
def Jc (d:Nat):Stepped->Prop
 | .next m=>d<=m.world.drawn
 |_=>True
theorem look_ok (p:Program)(a:Array Goroutine)(rest:Rest)(w:World):Jc w.drawn (look p a rest w):=by
 unfold look;split
 ·simp only[];split
  ·trivial
  ·split
   ·trivial
   ·split
    ·rename_i e;have h:=Tj e;exact h
    ·trivial
    ·trivial
 ·trivial
theorem lk (p:Program)(rest:Rest)(d:Array Goroutine)(i:Nat)(g:Goroutine)(c:Array CommCase)(b:Bool)(f:CommShape)(w:World):Jc w.drawn (communicate p rest d i g c b f w).1:=by
 unfold communicate;simp only[];split
 ·trivial
 ·split
  ·split
   ·split
    ·rename_i h;unfold waitingAt at h;split at h
     ·split at h
      ·cases h;exact Zf _
      ·cases h
     ·cases h;exact Zf _
    ·trivial
   ·exact Zf _
  ·split
   ·trivial
   ·rename_i e;have a:=Tj e;clear e;split
    ·split
     ·rename_i e;have h:=run_halt e;exact Zy a h
     ·trivial
    ·exact a
    ·exact a
    ·split
     ·exact a
     ·split
      ·rename_i e;have h:=Tj e;exact Zy a h
      ·trivial
    ·exact a
    ·exact a
    ·trivial
theorem uM (w)(c):(drain w c).2.drawn=w.drawn:=by
 unfold drain;split<;>rfl
theorem bZ (m)(k)(t:Timer)(a b):(retime m k t a b).2.world.drawn=m.world.drawn:=by
 unfold retime;simp only[];split
 ·exact uM ..
 ·rfl
theorem lZ {m c}{l:TimerOp}{v}(h:timerOp m l=.ok (v,c)):c.world.drawn=m.world.drawn:=by
 have g:∀(d:Nat) (b:Addr) (f:Nat->Timer->Value×Machine),(∀k t,(f k t).2.world.drawn=d)->timerOp.named m b f=.ok (v,c)->c.world.drawn=d:=by
  intro d b f i h;unfold timerOp.named at h;split at h
  ·rename_i k _;have:=i k (m.rest.timers.getD k default);simp only[Except.ok.injEq]at h;rw[h]at this;exact this
  ·cases h
 unfold timerOp at h;split at h
 ·split at h
  ·cases h;rfl
  ·split at h
   ·split at h
    ·cases h
    ·cases h;rfl
   ·cases h
 ·exact g _ _ _ (fun k t=>bZ ..) h
 ·split at h
  ·rename_i j a;have e:j.world.drawn=m.world.drawn:=by
    unfold timerOp.opened at a;split at a
    ·split at a
     ·cases a;rfl
     ·cases a
    ·cases a;rfl
   rw[<-e];exact g _ _ _ (fun k t=>bZ ..) h
  ·cases h
 ·cases h;rfl
theorem Av (p)(m)(i)(l):Jc m.world.drawn (runT p m i l).1:=by
 unfold runT;simp only[];generalize m.gs.swapAt! i {(default:Goroutine)with status:=.finished}=x;obtain⟨g,c⟩:=x;simp only[];have h:=CQ p (i==0) g m.world l;generalize stepG p (i==0) g m.world l=s at h;cases s with
 |ended=>trivial
 |comm g d b f w es=>
  have a:=lk p m.rest c i g d b f w;simp only[Fw,gW]at h;simp only[];generalize communicate p m.rest c i g d b f w=y at a;obtain⟨r,k⟩:=y;cases r with
  |next j=>exact Zy h a
  |_=>trivial
 |go=>exact h
 |spawn=>exact h
 |count=>
  simp only[];split
  ·trivial
  ·exact h
 |alone=>exact h
 |collect g w es=>
  have a:=look_ok p (c.setIfInBounds i g) m.rest w;simp only[Fw,gW]at h;simp only[];generalize look p (c.setIfInBounds i g) m.rest w=y at a;cases y with
  |next j=>exact Zy h a
  |_=>trivial
 |watch=>exact h
 |newcoro=>exact h
 |coroswitch=>
  simp only[];split
  ·exact h
  ·split
   ·rename_i e;cases e;exact h
   ·trivial
  ·trivial
 |timer=>
  simp only[];split
  ·rename_i e;simp only[Jc];rw[lZ e];exact h
  ·split
   ·rename_i e;cases e;exact h
   ·trivial
  ·trivial
  ·trivial
theorem C8 (p)(m)(k):Jc m.world.drawn (serve p m k):=by
 unfold serve;split
 ·trivial
 ·exact Zf _
 ·simp only[];split
  ·trivial
  ·exact Zf _
def JD (d:Nat):Move->Prop
 | .goroutine m _=>d<=m.world.drawn
 | .machine s _=>Jc d s
theorem bh {d a}(h:d<=a):∀{v:Move},JD a v->JD d v
 | .goroutine _ _,k=>Zy h k
 | .machine s _,k=>by
   cases s with
   |next m=>exact Zy h k
   |_=>trivial
theorem qE {w}{fd}{t:ByteArray}{o:Outcome}{d}:JD d (match endWith w fd t o with
  | .ended o w _=>.machine (.ended o w)
  | _ => .machine (.ended (.stuck "" "") default)) := by
 split<;>trivial
theorem qb (p:Program)(rs:P')(m:Machine):JD m.world.drawn (match(choose (.sched rs.length)).run p m.world with
   | .halt _ w => .machine (.ended (.stuck "sched" "") w)
   | .ok k world=>
     if rs.length<=1 then .goroutine {m with world} (rs.getD k 0)else
     match (choose (.extern "sched.slice" 65536)).run p world with
     | .halt _ w => .machine (.ended (.stuck "sched.slice" "") w)
     | .ok n world=>.goroutine {m with world,rest:={m.rest with slice:=if n=0 then none else some (rs.getD k 0,n)}} (rs.getD k 0)):=by
 split
 ·trivial
 ·rename_i e;have h:=Tj e;split
  ·exact h
  ·split
   ·trivial
   ·rename_i e2;have h2:=Tj e2;exact Zy h h2
theorem lF (p:Program)(m:Machine):JD m.world.drawn (askOn p m):=by
 unfold askOn;simp only[];split
 ·trivial
 ·rename_i e;have h:=Tj e;clear e;split
  ·refine bh h ?_;exact C8 ..
  ·split
   ·split
    ·exact h
    ·split
     ·exact h
     ·exact qE
   ·split
    ·exact bh h (qb p _ {m with world:=_})
    ·split
     ·trivial
     ·rename_i e2;have a:=Tj e2;exact bh (Zy h a) (qb p _ {m with world:=_})
     ·rename_i e2;have a:=Tj e2;exact Zy h a
     ·rename_i e2;have a:=Tj e2;exact bh (Zy h a) (qb p _ (Machine.advanceTo {m with world:=_} _))
theorem FG (p:Program)(m:Machine):JD m.world.drawn (ask p m):=by
 unfold ask;split
 ·split
  ·trivial
  ·rename_i e;have h:=Tj e;clear e;split
   ·rename_i b e;have a:=look_ok p m.gs m.rest ‹World›;rw[e]at a;exact bh (Zy h a) (lF p b)
   ·rename_i e _;have a:=look_ok p m.gs m.rest ‹World›;exact bh h a
  ·rename_i e;have h:=Tj e;exact bh h (lF p {m with world:=_})
 ·exact lF p m
theorem Hc (p)(m):JD m.world.drawn (move p m):=by
 unfold move;split
 ·split
  ·exact Zf _
  ·trivial
 ·split
  ·split
   ·exact Zf _
   ·exact FG p {m with rest:=_}
  ·exact FG p m
theorem Gp (p)(m):Jc m.world.drawn (step p m):=by
 unfold step stepT;have h:=Hc p m;generalize move p m=v at h;cases v with
 |goroutine b i=>
  have a:=Av p b i true;simp only[];generalize (runT p b i true).1=s at a⊢;cases s with
  |next m2=>exact Zy h a
  |_=>trivial
 |machine s c=>exact h
theorem ji {p}:∀n {m a},runN p n m=.next a->m.world.drawn<=a.world.drawn
 |0,m,a,h=>by cases h;exact Zf _
 |n+1,m,a,h=>by
  have b:=Gp p m;unfold runN at h;split at h
  ·rename_i c e;rw[e]at b;exact Zy b (ji n h)
  ·rename_i e;exact absurd h (e _)
theorem u6 {P}{f}{args}{w}{R:Ending->World->Prop}(h:Calls P f args w R)(k:∀e a,R e a->∃v,e=.returned v):
  Calls P f args w fun e a=>R e a/\w.drawn<=a.drawn:=by
 intro d;obtain⟨e,a,g,b,c,i⟩:=h d;refine⟨e,a,g,⟨b,?_⟩,c,i⟩;obtain⟨v,rfl⟩:=k e a b;obtain⟨n,j⟩:=c;exact ji n j
