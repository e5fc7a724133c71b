/- Slices of words as the interpreter sees them. -/
import Derived.Test.YtefpgecinlekpaaGreatEvRun
import Derived.Test.YtefpgecinlekpaaGreatNum
import Derived.Test.YtefpgecinlekpaaGreatTab
import Derived.Test.YtefpgecinlekpaaGreatEvRmap
namespace Go.Ev
open Go.Num
theorem ex1 {α:Type}{p q:α->Prop}{x:α}(h:p x)(k:q x):∃x,p x/\q x:=⟨x,h,k⟩
def wsP (ws:List Nat):List (List PL):=ws.map fun w=>[.int .u32 (.ofNat w)]
def wsD (ws:List Nat):List (List DL):=ws.map fun w=>[.p (.int .u32 (.ofNat w))]
theorem wsP_get {ws:List Nat}{i w:Nat}(h:ws[i]? =some w):(wsP ws)[i]? =some [.int .u32 (.ofNat w)]:=by simp[wsP,h]
theorem XB {ws:List Nat}{i w:Nat}(h:ws[i]? =some w):(wsD ws)[i]? =some [.p (.int .u32 (.ofNat w))]:=by simp[wsD,h]
theorem wsP_len (ws:List Nat):(wsP ws).length=ws.length:=by simp[wsP]
theorem Ws (ws:List Nat):(wsD ws).length=ws.length:=by simp[wsD]
theorem wsP_take (ws:List Nat)(n:Nat):(wsP ws).take n=wsP (ws.take n):=by simp[wsP,List.map_take]
theorem wsD_take (ws:List Nat)(n:Nat):(wsD ws).take n=wsD (ws.take n):=by simp[wsD,List.map_take]
theorem wsD_drop (ws:List Nat)(n:Nat):(wsD ws).drop n=wsD (ws.drop n):=by simp[wsD,List.map_drop]
theorem X5 (ws:List Nat)(i w:Nat):(wsD ws).set i [.p (.int .u32 (.ofNat w))]=wsD (ws.set i w):=by simp[wsD,List.map_set]
theorem VU (n:Nat):List.replicate n [DL.p (.int .u32 (.ofNat 0))]=wsD (List.replicate n 0):=by simp[wsD]
theorem wsP_map (ws:List Nat):(wsP ws).map (·.map DL.p)=wsD ws:=by simp[wsP,wsD]
theorem Vb (n:Nat)(h:HF):∀(ws:List Nat),Xl (Xl (Xn n h)) (wsD ws)=some (wsP ws)
 |[]=>rfl
 |w::ws=>by
  have:=Vb n h ws
  simp only[wsD,wsP]at this
  simp only[wsD,wsP,Zx,Xl,frzL0,this]
theorem Vl (n:Nat)(h:HF):∀(ws:List Nat),(wsD ws).flatMap (fun c=>c.flatMap (Wt n h))=[]
 |[]=>rfl
 |w::ws=>by
  have:=Vl n h ws
  simp only[wsD]at this
  simp only[wsD,Zx,Yv,List.flatMap_nil,idsL0,this,ZO]
theorem all_wsD (ws:List Nat):(wsD ws).all (fun c=>Nat.beq c.length 1)=true:=by
 rw[ZP];intro c hc
 simp only[wsD,ZM]at hc
 obtain⟨w,-,rfl⟩:=hc;rfl
def Sl (l:PL)(es:List (List PL)):Prop:=l=.lst es\/(es=[]/\l=.nilS)
section
variable {l:PL}{es:List (List PL)}{h:HF}{sz i n:Nat}{c:List PL}{k:IntKind}
theorem Sl.lst:Sl (.lst es) es:=.inl rfl
theorem Sl.nil:Sl .nilS []:=.inr ⟨rfl,rfl⟩
theorem Sl.len (s:Sl l es):TQ [.one (.p l)]=some ⟨.one (.p (.int .i64 (.ofNat es.length))),[],[],[]⟩:=by
 rcases s with rfl|⟨rfl,rfl⟩<;>rfl
theorem Sl.idx (s:Sl l es)(hi:es[i]? =some c)(hc:c.length=sz):WH sz h [.one (.p l),.one (.p (.int k (.ofNat i)))]=some ⟨.one (.p (.ref c)),[],[],[]⟩:=by
 rcases s with rfl|⟨rfl,rfl⟩
 ·simp only[WH,hi,beq_t hc,cond_true,Res.pure]
 ·simp at hi
theorem Sl.chunks (s:Sl l es):XX h (.p l)=some (es.map (·.map .p),[]):=by
 rcases s with rfl|⟨rfl,rfl⟩<;>rfl
end
abbrev SlW (l:PL)(ws:List Nat):Prop:=Sl l (wsP ws)
theorem SlW.len {l:PL}{ws:List Nat}(s:SlW l ws):TQ [.one (.p l)]=some ⟨.one (.p (.int .i64 (.ofNat ws.length))),[],[],[]⟩:=by
 rw[Sl.len s,wsP_len]
theorem SlW.idx {l:PL}{ws:List Nat}{h:HF}{i w:Nat}{k:IntKind}(s:SlW l ws)(hi:ws[i]? =some w):WH 1 h [.one (.p l),.one (.p (.int k (.ofNat i)))]=some ⟨.one (.p (.ref [.int .u32 (.ofNat w)])),[],[],[]⟩:=
 Sl.idx s (wsP_get hi) rfl
theorem wsP_one {ws:List Nat}:∀c∈wsP ws,c.length=1:=by
 intro c hc
 simp only[wsP,ZM]at hc
 obtain⟨w,-,rfl⟩:=hc;rfl
theorem SlW.upto {l:PL}{ws:List Nat}{n:Nat}(s:SlW l ws)(hn:n<=ws.length):∃l',(∀h,X6 1 h (.p l) 0 (some n)=some (.p l',[]))/\SlW l' (ws.take n):=by
 rcases s with rfl|⟨e,rfl⟩
 ·refine⟨.lst (wsP (ws.take n)),fun h=> ?_,.lst⟩
  have hc:TK 1 (wsP ws)[0]? =true:=by
   cases he:(wsP ws)[0]? with
   |none=>rfl
   |some c=>exact beq_t (wsP_one c (Zu he))
  have h0:Nat.ble 0 n=true:=T5 (Zr _)
  have h1:Nat.ble n (wsP ws).length=true:=T5 (by rw[wsP_len];exact hn)
  simp only[X6,Option.getD_some,h1,hc,h0,Bool.and_self,cond_true,Yh,wsP_take]
 ·have :ws=[]:=by simpa[wsP]using e
  subst this
  have :n=0:=by simpa using hn
  subst this
  exact⟨.nilS,fun _=>rfl,.nil⟩
abbrev IsW (l:PL)(n:Nat):Prop:=SlW l (Xc n)
theorem IsW.zero:IsW .nilS 0:=by show Sl .nilS (wsP (Xc 0));rw[Wm];exact .nil
def IsI (c:List PL)(z:Int):Prop:=∃m,c=[.bool (decide (z<0)),m]/\IsW m z.natAbs
theorem appNil_ws {e n:Nat}{ws:List Nat}{ids:List Nat}(h0:ws≠[])(hl:ws.length<1000000000000):X8 e 1 4 n (wsD ws) ids=some ⟨.one (.own n 0 0 ws.length),[⟨false,0,1,wsD ws,false,e⟩],[],ids⟩:=by
 have h1:Nat.ble ((wsD ws).length*4) lim=true:=T5 (by rw[Ws];unfold lim;omega)
 have h2:Nat.ble (wsD ws).length 9223372036854775807=true:=T5 (by rw[Ws];omega)
 cases ws with
 |nil=>exact absurd rfl h0
 |cons w ws=>
  simp only[X8,h1,h2,Bool.and_self,cond_true]
  simp only[wsD,Zx,Zi,ZU]
def sgn (z:Int):Int:=if z=0 then .ofNat 0 else if z<0 then .negSucc 0 else .ofNat 1
def Sm (z:Int):Prop:=(Xc z.natAbs).length<100000000000
theorem Tu {n:Nat}:(Xc n).length=1↔0<n/\n<4294967296:=by
 by_cases h:n=0
 ·subst h;rw[Wm];simp
 ·rw[VV h]
  by_cases h2:n / 4294967296=0
  ·rw[h2,Wm];simp;omega
  ·rw[VV h2];simp;omega
theorem words_small {n:Nat}(h:0<n)(h2:n<4294967296):Xc n=[n]:=by
 rw[VV (by omega),show n / 4294967296=0 by omega,Wm,Zd h2]
theorem Wn {n:Nat}:(Xc n).length=0↔n=0:=by
 by_cases h:n=0
 ·subst h;rw[Wm];simp
 ·rw[VV h];simp[h]
theorem IsI.len {c:List PL}{z:Int}(h:IsI c z):∃n m,c=[.bool n,m]:=by
 obtain⟨m,rfl,-⟩:=h;exact⟨_,m,rfl⟩
end Go.Ev
namespace Go.Proofs.YtefpgecinlekpaaGreat
open Go.Ev
def inNats (n:Nat):List Nat->Bool
 |[]=>false
 |x::xs=>bif Nat.beq n x then true else inNats n xs
def heapFs:List Nat:=[89,91,133,125,107,150,175,176,177,178,179,180,181,182,201,202,203,210,140,160,161,162,163,164,165,166,167,192,195,196,209,194,124,106,110,199,200,207,206,44,35]
def md (f:Nat):Ev.Mode:=bif inNats f heapFs then .heap else .pure
def XV:Nat->Option XFunc:=without [150,140] X
structure Std (B:Base):Prop where
 mode:B.E0.mode=md
 tab:∀f xf,XV f=some xf->B.X f=some xf
theorem Std.evt {B:Base}(h:Std B):Evt B fun E _=>E.mode=md:=by
 have:=Evt.mode (B:=B)
 rwa[h.mode]at this
theorem MDS:md 2=.pure/\md 3=.pure/\md 4=.pure/\md 5=.pure/\md 6=.pure/\md 7=.pure/\md 8=.pure/\md 9=.pure/\md 10=.pure/\md 11=.pure/\md 12=.pure/\md 13=.pure/\md 14=.pure/\md 15=.pure/\md 16=.pure/\md 17=.pure/\md 18=.pure/\md 19=.pure/\md 20=.pure/\md 21=.pure/\md 22=.pure/\md 23=.pure/\md 24=.pure/\md 25=.pure/\md 26=.pure/\md 27=.pure/\md 28=.pure/\md 29=.pure/\md 30=.pure/\md 31=.pure/\md 32=.pure/\md 33=.pure/\md 34=.pure/\md 35=.heap/\md 36=.pure/\md 37=.pure/\md 38=.pure/\md 39=.pure/\md 40=.pure/\md 41=.pure/\md 42=.pure/\md 43=.pure/\md 44=.heap/\md 45=.pure/\md 46=.pure/\md 47=.pure/\md 48=.pure/\md 49=.pure/\md 50=.pure/\md 51=.pure/\md 52=.pure/\md 53=.pure/\md 54=.pure/\md 55=.pure/\md 56=.pure/\md 57=.pure/\md 58=.pure/\md 59=.pure/\md 60=.pure/\md 61=.pure/\md 62=.pure/\md 63=.pure/\md 64=.pure/\md 65=.pure/\md 66=.pure/\md 67=.pure/\md 68=.pure/\md 69=.pure/\md 70=.pure/\md 71=.pure/\md 72=.pure/\md 73=.pure/\md 74=.pure/\md 75=.pure/\md 76=.pure/\md 77=.pure/\md 78=.pure/\md 79=.pure/\md 80=.pure/\md 81=.pure/\md 82=.pure/\md 83=.pure/\md 84=.pure/\md 85=.pure/\md 86=.pure/\md 87=.pure/\md 88=.pure/\md 89=.heap/\md 90=.pure/\md 91=.heap/\md 92=.pure/\md 93=.pure/\md 94=.pure/\md 95=.pure/\md 96=.pure/\md 97=.pure/\md 98=.pure/\md 99=.pure/\md 100=.pure/\md 101=.pure/\md 102=.pure/\md 103=.pure/\md 104=.pure/\md 105=.pure/\md 106=.heap/\md 107=.heap/\md 108=.pure/\md 109=.pure/\md 110=.heap/\md 111=.pure/\md 112=.pure/\md 113=.pure/\md 114=.pure/\md 115=.pure/\md 116=.pure/\md 117=.pure/\md 118=.pure/\md 119=.pure/\md 120=.pure/\md 121=.pure/\md 122=.pure/\md 123=.pure/\md 124=.heap/\md 125=.heap/\md 126=.pure/\md 127=.pure/\md 128=.pure/\md 129=.pure/\md 130=.pure/\md 131=.pure/\md 132=.pure/\md 133=.heap/\md 134=.pure/\md 135=.pure/\md 136=.pure/\md 137=.pure/\md 138=.pure/\md 139=.pure/\md 140=.heap/\md 141=.pure/\md 142=.pure/\md 143=.pure/\md 144=.pure/\md 145=.pure/\md 146=.pure/\md 147=.pure/\md 148=.pure/\md 149=.pure/\md 150=.heap/\md 151=.pure/\md 152=.pure/\md 153=.pure/\md 154=.pure/\md 155=.pure/\md 156=.pure/\md 157=.pure/\md 158=.pure/\md 159=.pure/\md 160=.heap/\md 161=.heap/\md 162=.heap/\md 163=.heap/\md 164=.heap/\md 165=.heap/\md 166=.heap/\md 167=.heap/\md 168=.pure/\md 169=.pure/\md 170=.pure/\md 171=.pure/\md 172=.pure/\md 173=.pure/\md 174=.pure/\md 175=.heap/\md 176=.heap/\md 177=.heap/\md 178=.heap/\md 179=.heap/\md 180=.heap/\md 181=.heap/\md 182=.heap/\md 183=.pure/\md 184=.pure/\md 185=.pure/\md 186=.pure/\md 187=.pure/\md 188=.pure/\md 189=.pure/\md 190=.pure/\md 191=.pure/\md 192=.heap/\md 193=.pure/\md 194=.heap/\md 195=.heap/\md 196=.heap/\md 197=.pure/\md 198=.pure/\md 199=.heap/\md 200=.heap/\md 201=.heap/\md 202=.heap/\md 203=.heap/\md 204=.pure/\md 205=.pure/\md 206=.heap/\md 207=.heap/\md 208=.pure/\md 209=.heap/\md 210=.heap:=
 ⟨rfl,rfl,rfl,rfl,rfl,rfl,rfl,rfl,rfl,rfl,rfl,rfl,rfl,rfl,rfl,rfl,rfl,rfl,rfl,rfl,rfl,rfl,rfl,rfl,rfl,rfl,rfl,rfl,rfl,rfl,rfl,rfl,rfl,rfl,rfl,rfl,rfl,rfl,rfl,rfl,rfl,rfl,rfl,rfl,rfl,rfl,rfl,rfl,rfl,rfl,rfl,rfl,rfl,rfl,rfl,rfl,rfl,rfl,rfl,rfl,rfl,rfl,rfl,rfl,rfl,rfl,rfl,rfl,rfl,rfl,rfl,rfl,rfl,rfl,rfl,rfl,rfl,rfl,rfl,rfl,rfl,rfl,rfl,rfl,rfl,rfl,rfl,rfl,rfl,rfl,rfl,rfl,rfl,rfl,rfl,rfl,rfl,rfl,rfl,rfl,rfl,rfl,rfl,rfl,rfl,rfl,rfl,rfl,rfl,rfl,rfl,rfl,rfl,rfl,rfl,rfl,rfl,rfl,rfl,rfl,rfl,rfl,rfl,rfl,rfl,rfl,rfl,rfl,rfl,rfl,rfl,rfl,rfl,rfl,rfl,rfl,rfl,rfl,rfl,rfl,rfl,rfl,rfl,rfl,rfl,rfl,rfl,rfl,rfl,rfl,rfl,rfl,rfl,rfl,rfl,rfl,rfl,rfl,rfl,rfl,rfl,rfl,rfl,rfl,rfl,rfl,rfl,rfl,rfl,rfl,rfl,rfl,rfl,rfl,rfl,rfl,rfl,rfl,rfl,rfl,rfl,rfl,rfl,rfl,rfl,rfl,rfl,rfl,rfl,rfl,rfl,rfl,rfl,rfl,rfl,rfl,rfl,rfl,rfl,rfl,rfl,rfl,rfl,rfl,rfl,rfl,rfl,rfl,rfl⟩
end Go.Proofs.YtefpgecinlekpaaGreat
