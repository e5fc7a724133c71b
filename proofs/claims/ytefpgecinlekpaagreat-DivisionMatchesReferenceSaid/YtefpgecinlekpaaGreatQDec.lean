/- What the library's sort answers at terms and any order; the same for terms with rational coefficients. -/
import Derived.Test.YtefpgecinlekpaaGreatQPol
set_option maxHeartbeats 16000000
set_option maxRecDepth 100000
namespace Go.Num
def oz (o:List (List Int))(t:Qm):List Qm->List Qm
 |[]=>[t]
 |u::us=>bif Go.Ev.T5 (WQ o t.2 u.2) (.ofNat 0)then u::oz o t us else t::u::us
def Va (o:List (List Int)):List Qm->List Qm
 |[]=>[]
 |t::ts=>oz o t (Va o ts)
theorem bO (o:List (List Int))(t:Qm):∀a,(oz o t a).Perm (t::a)
 |[]=>.refl _
 |u::us=>by
  unfold oz;cases Go.Ev.T5 (WQ o t.2 u.2) (.ofNat 0)with
  |true=>exact((bO o t us).cons u).trans (List.Perm.swap ..)
  |false=>exact .refl _
theorem Vy (o:List (List Int)):∀a,(Va o a).Perm a
 |[]=>.refl _
 |t::a=>(bO o t _).trans ((Vy o a).cons t)
end Go.Num
namespace Go.Proofs.YtefpgecinlekpaaGreat
open Go.Ev Go.Num
theorem vP (o:List (List Int))(m n:List Nat):isNeg (WQ o m n)=T5 (WQ o m n) (.ofNat 0):=by
 rcases VC o m n with h|h|h<;>rw[h]<;>rfl
theorem Vd.mono {c:List PL}{t:Qm}(h:Vd c t):qQ c=some t.2:=by
 obtain⟨n,a,d,b,rfl,-,e⟩:=h;exact OO e
theorem Vd.mM {c:List PL}{t:Qm}(h:Vd c t):V0 c=t.2:=by unfold V0;rw[h.mono];rfl
theorem Vd.GI {c:List PL}{t:Qm}(h:Vd c t):isTerm c=true:=by unfold isTerm;rw[h.mono];rfl
theorem X2.EL {b:List (List PL)}{e:List Qm}(h:X2 b e):Ti b:=by
 induction h with
 |nil=>intro c a;cases a
 |cons h _ d=>
  intro c a;rcases Zk.1 a with rfl|a
  ·exact h.GI
  ·exact d c a
theorem X2.ins {o:List (List Int)}{c:List PL}{t:Qm}(b:Vd c t){a:List (List PL)}{g:List Qm}(h:X2 a g):X2 (fT o c a) (oz o t g):=by
 induction h with
 |nil=>exact .cons b .nil
 |@cons d u a g f h i=>
  unfold fT oz;have e:isNeg (UE o d c)=T5 (WQ o t.2 u.2) (.ofNat 0):=by unfold UE;rw[b.mM,f.mM];exact vP ..
  rw[e];cases T5 (WQ o t.2 u.2) (.ofNat 0)with
  |true=>exact .cons f i
  |false=>exact .cons b (.cons f h)
theorem X2.sort {o:List (List Int)}{a:List (List PL)}{b:List Qm}(h:X2 a b):X2 (U8 o a) (Va o b):=by
 induction h with
 |nil=>exact .nil
 |cons c h d=>exact X2.ins c d
def q7:PL->Option Int
 | .int .i64 z=>bif T5 (.negSucc 1000) z&&T5 z (.ofNat 1001)then some z else none
 |_=>none
def uU (c:List PL):Option (List Int):=bif Nat.beq c.length 8 then Xt q7 c else none
def nN:PL->Option (List (List Int))
 | .XJ=>some []
 | .Xv rows=>bif Nat.blt rows.length 1000000 then Xt uU rows else none
 |_=>none
theorem vQ {l:PL}{z:Int}(h:q7 l=some z):l=.int .i64 z/\-1000<=z/\z<=1000:=by
 unfold q7 at h;split at h
 ·obtain⟨a,rfl⟩:=Xw h;rw[Zp,Tn,Tn,decide_eq_true_eq,decide_eq_true_eq]at a;refine⟨rfl,?_,?_⟩
  ·have:=a.1;omega
  ·have:=a.2;simp only[ZA]at this;omega
 ·cases h
theorem ox:∀{c:List PL} {r:List Int},Xt q7 c=some r->c=Ua r/\∀w∈r,-1000<=w/\w<=1000
 |[],r,h=>by cases h;exact⟨rfl,fun _ h=>by cases h⟩
 |x::c,r,h=>by
  simp only[Xt]at h;split at h
  ·cases h
  ·rename_i z g;split at h
   ·cases h
   ·rename_i i b;cases h;obtain⟨rfl,d⟩:=vQ g;obtain⟨rfl,f⟩:=ox b;refine⟨rfl,fun e a=> ?_⟩;rcases Zk.1 a with rfl|a
    ·exact d
    ·exact f e a
theorem uS {c:List PL}{r:List Int}(h:uU c=some r):c=Ua r/\rQ r:=by
 obtain⟨a,b⟩:=XX h;obtain⟨rfl,d⟩:=ox b;exact⟨rfl,by simpa[N6]using Zm a,d⟩
theorem jc:∀{a:List (List PL)} {o:List (List Int)},Xt uU a=some o->a=o.map Ua/\VE o
 |[],r,h=>by cases h;exact⟨rfl,fun _ h=>by cases h⟩
 |x::c,r,h=>by
  simp only[Xt]at h;split at h
  ·cases h
  ·rename_i z i;split at h
   ·cases h
   ·rename_i j d;cases h;obtain⟨rfl,f⟩:=uS i;obtain⟨rfl,g⟩:=jc d;refine⟨rfl,fun e b=> ?_⟩;rcases Zk.1 b with rfl|b
    ·exact f
    ·exact g e b
theorem qJ {l:PL}{o:List (List Int)}(h:nN l=some o):S6 l o/\VE o/\o.length<1000000:=by
 unfold nN at h;split at h
 ·cases h;exact⟨.inr ⟨rfl,rfl⟩,(fun _ h=>by cases h),by simp⟩
 ·obtain⟨a,b⟩:=XX h;obtain⟨rfl,c⟩:=jc b;refine⟨.Xv,c,?_⟩;simpa using a
 ·cases h
theorem zg {z:Int}(a: -1000<=z)(b:z<=1000):q7 (.int .i64 z)=some z:=by
 have e1:T5 (.negSucc 1000) z=true:=by rw[Tn,decide_eq_true_eq];omega
 have e2:T5 z (.ofNat 1001)=true:=by rw[Tn,decide_eq_true_eq];simp only[ZA];omega
 simp only[q7,e1,e2,YT,cond_true]
theorem jE:∀{r:List Int},(∀w∈r,-1000<=w/\w<=1000)->Xt q7 (Ua r)=some r
 |[],_=>rfl
 |w::r,h=>by
  have a:=jE (r:=r) fun x d=>h x (Zc _ d)
  obtain⟨b,c⟩:=h w (Ze ..);unfold Ua at a;simp only[Ua,Zw,Xt,zg b c,a]
theorem uT {r:List Int}(h:rQ r):uU (Ua r)=some r:=by
 have a:Nat.beq (Ua r).length 8=true:=by rw[N6,h.1];rfl
 simp only[uU,a,cond_true,jE h.2]
theorem na:∀{o:List (List Int)},VE o->Xt uU (o.map Ua)=some o
 |[],_=>rfl
 |r::o,h=>by
  simp only[Zw,Xt,uT (h r (Ze ..)),na fun x a=>h x (Zc _ a)]
theorem yH {l:PL}{o:List (List Int)}(d:S6 l o)(c:VE o)(b:o.length<1000000):nN l=some o:=by
 rcases d with rfl|⟨h,rfl⟩
 ·have a:Nat.blt (o.map Ua).length 1000000=true:=PF (by simpa using b);simp only[nN,a,cond_true,na c]
 ·have :o=[]:=by simpa using h
  subst this;rfl
def keyOf (H:List Xz)(i:Nat):DL->Option (List (List Int))
 | .p (.fn g [])=>bif Nat.beq g 134 then some []else none
 | .fn g [.ptr j vj 0 0]=>bif Nat.beq g 126&& !Nat.beq j i then
   match H[j]? with
   |some bj=>bif !bj.mp&&Nat.beq vj bj.XZ then(match bj.ch with |[[.p lo]]=>nN lo|_=>none)else none
   |none=>none
   else none
 |_=>none
def Rh (args:List DV)(H:List Xz):Option (DV×List Xz):=
 match args with
 |[.one (.own i XZ 0 n),.one (.p (.int .i64 (.ofNat 0))),.one (.p (.int .i64 (.ofNat n2))),.one (.p (.int .i64 (.ofNat lm))),.one fn]=>
  match keyOf H i fn with
  |some o=>bif Nat.blt lm 4611686018427387904 then
   match H[i]? with
   |some b=>match Xt (Xt AH) b.ch with
    |some es=>bif !b.mp&& !b.fz&&Nat.beq XZ b.XZ&&Nat.beq b.sz 12&&Nat.beq n es.length&&Nat.beq n2 es.length&&Nat.blt es.length 1000000&&es.all isTerm&&UM es then some (.XY [],H.set i {b with ch:=(U8 o es).map (·.map .p)})else none
    |none=>none
   |none=>none
   else none
  |none=>none
 |[.one (.p .XJ),.one (.p (.int .i64 (.ofNat 0))),.one (.p (.int .i64 (.ofNat 0))),.one (.p (.int .i64 (.ofNat lm))),.one (.fn _ _)]=>bif Nat.blt lm 4611686018427387904 then some (.XY [],H)else none
 |_=>none
theorem oC (c:List PL):∀a,fT [] c a=ins c a
 |[]=>rfl
 |d::a=>by unfold fT ins;rw[oC c a];rfl
theorem fP:∀a,U8 [] a=Tf a
 |[]=>rfl
 |c::a=>by unfold U8 Tf;rw[fP a,oC]
theorem yE {args:List DV}{H:List Xz}{r:DV×List Xz}(h:fq args H=some r):Rh args H=some r:=by
 unfold fq at h;split at h
 ·rename_i i XZ n d c g;obtain⟨a,b⟩:=XX h;rw[Zp]at a;simp only[Rh,keyOf,a.1,a.2,cond_true,fP];exact b
 ·cases h
structure StdO (B:Xr):Prop extends Std B where
 pdq:∀args H r,Rh args H=some r->B.E0.heap 150 args H=some r
theorem rI {B:Xr}(a:Std B){f:PL}{o:List (List Int)}(k:S6 f o)(h:VE o)(c:o.length<1000000){x y z u x2 y2 z2 u2:PL}{m n:List Nat}(d:XL m)(e:XL n):
  Xs B 126 [.agg (x::y::z::u::mo m),.agg (x2::y2::z2::u2::mo n),.one (.ref [f])] (.one (.int .i64 (WQ o n m))):=by
 have g:=OM a k h e d c;have i:=d.1;have j:=e.1;have l:(Xm m).take 8=Xm m:=Zb (by rw[Xa];omega);have p:(Xm n).take 8=Xm n:=Zb (by rw[Xa];omega);refine Xs.of (a.X6 _ _ rfl) ((g.Xi.and a.Xi).mono fun E K ⟨e1,b⟩=> ?_);simp only[Xp,Xq,VN,reduceIte,Nat.reduceEqDiff,Nat.reduceLeDiff,Nat.reduceAdd,x126,b,XW,e1,XS,Xa,i,j,l,p,XK,XN]
structure Ei (B:Xr):Prop extends Std B where
 pdq:∀args H r,fq args H=some r->B.E0.heap 150 args H=some r
theorem vk {H:List Xz}{i v:Nat}{a:List (List PL)}{c b:Nat}(h:H[i]? =some ⟨false,v,12,pc a,false,c⟩)(k:Ti a)(g:UM a=true)(l:a.length<60000)(j:b<100):
  fq [.one (.own i v 0 a.length),.one (.p (.int .i64 (.ofNat 0))),.one (.p (.int .i64 (.ofNat a.length))),.one (.p (.int .i64 (.ofNat b))),.one (.p (.fn 134 []))] H=
   some (.XY [],H.set i ⟨false,v,12,pc (Tf a),false,c⟩):=by
 have d:Nat.blt b 4611686018427387904=true:=PF (by omega);have e:Nat.blt a.length 1000000=true:=PF (by omega);have f:a.all isTerm=true:=ZP.2 k;simp only[fq,YG,d,h,kq,e,f,g,YT,Bool.not_false,cond_true];rfl
open Go.Ev
def iL:List PL:=[(.bool false),.XJ,(.bool false),.XJ,(.int .i64 (.ofNat 0)),(.int .i64 (.ofNat 0)),(.int .i64 (.ofNat 0)),(.int .i64 (.ofNat 0)),(.int .i64 (.ofNat 0)),(.int .i64 (.ofNat 0)),(.int .i64 (.ofNat 0)),(.int .i64 (.ofNat 0))]
def uX:RM where
 m:=0
 m2:=9
 it:=10
 nx:=11
 ok:=12
 en:=13
 b:=0
 b2:=1
 VB:=8
 ntmps:=28
 results:=[(2,none)]
 yt:=.region false [⟨(some 2),.move,[(.c (.one .XJ))],none,[]⟩]
 yr:=.region false [⟨(some 6),.move,[(.t 0)],none,[]⟩,⟨(some 7),.Oc,[(.t 6)],none,[]⟩,⟨(some 8),(.makeSlice 63 iL 128),[(.c (.one (.int .i64 (.ofNat 0)))),(.t 7)],none,[]⟩,⟨(some 3),.move,[(.t 8)],none,[]⟩]
 post:=.seq (.region false [⟨(some 25),.move,[(.t 3)],none,[]⟩,⟨(some 26),(.call 133),[(.t 25),(.c (.one (.fn 134 [])))],none,[]⟩]) (.seq (.region false [⟨(some 27),.move,[(.t 3)],none,[]⟩,⟨(some 2),.move,[(.t 27)],none,[]⟩]) .ret)
 tail:=[⟨(some 14),(.extract 0),[(.t 13)],none,[0]⟩,⟨(some 15),(.extract 1),[(.t 13)],none,[0]⟩,⟨(some 4),(.alloc 51 [(.int .i64 (.ofNat 0)),(.int .i64 (.ofNat 0)),(.int .i64 (.ofNat 0)),(.int .i64 (.ofNat 0)),(.int .i64 (.ofNat 0)),(.int .i64 (.ofNat 0)),(.int .i64 (.ofNat 0)),(.int .i64 (.ofNat 0))]),[],none,[]⟩,⟨(some 5),(.alloc 61 [(.bool false),.XJ,(.bool false),.XJ]),[],none,[]⟩,⟨none,(.store 8),[(.t 4),(.t 14)],none,[3,1,0,1,3,4]⟩,⟨none,(.store 4),[(.t 5),(.t 15)],none,[4,2,5,0,1,2,3,4,5]⟩]
 rb:=.seq (.region false [⟨(some 16),(.load true 4),[(.t 5)],none,[]⟩,⟨(some 17),(.call 132),[(.t 16)],none,[]⟩,⟨(some 18),(.bin .neq),[(.t 17),(.c (.one (.int .i64 (.ofNat 0))))],none,[]⟩]) (.cond (.t 18) (.region false [⟨(some 19),.move,[(.t 3)],none,[]⟩,⟨(some 20),(.load true 4),[(.t 5)],none,[]⟩,⟨(some 21),(.load true 8),[(.t 4)],none,[]⟩,⟨(some 22),(.build iL [(0,4),(4,8)]),[(.t 20),(.t 21)],none,[]⟩,⟨(some 23),(.buildSlice 63 iL 1 [0]),[(.t 22)],none,[]⟩,⟨(some 24),(.append 63 12 128),[(.t 19),(.t 23)],none,[]⟩,⟨(some 3),.move,[(.t 24)],none,[]⟩]) .skip)
theorem Dh:Az Tryz.prog 91 uX:=by
 refine⟨⟨Tryz.f91,_,_,_,_,_,_,_,_,_,_,_,_,_,Tryz.func91,rfl,by kernel_rfl,by kernel_rfl,by kernel_rfl,by kernel_rfl,by kernel_rfl,by kernel_rfl,?_⟩⟩;refine⟨⟨rfl,rfl,rfl⟩,⟨_,rfl,rfl,rfl,51,61,by kernel_rfl⟩,⟨rfl,rfl,rfl⟩,⟨rfl,rfl,rfl⟩,⟨rfl,rfl,rfl⟩,by kernel_rfl,by kernel_rfl,?_,?_⟩
 ·exact⟨by decide,by decide,by decide,by decide,by decide⟩
 ·exact⟨by decide,by decide,by decide⟩
end Go.Proofs.YtefpgecinlekpaaGreat
namespace Go.Ev
open Go.RowKit
theorem nX {c d:Type}{f:c->Option d}{p:d->Prop}:∀{l:List c},(∀x∈l,∃y,f x=some y/\p y)->∃b,Xt f l=some b/\∀y∈b,p y
 |[],_=>⟨[],rfl,fun _ h=>by cases h⟩
 |x::l,h=>by
  obtain⟨y,e,g⟩:=h x (by simp);obtain⟨b,i,j⟩:=nX fun z a=>h z (Zc _ a)
  refine⟨y::b,by simp only[Xt,e,i],fun z a=> ?_⟩;rcases Zk.1 a with rfl|a
  ·exact g
  ·exact j z a
theorem Np {a:Type}:∀(l:List a) (p:a×List a),p∈QD l->(p.1::p.2).Perm l
 |[],p,h=>by simp[QD]at h
 |x::l,p,h=>by
  simp only[QD,Zk,ZH]at h;rcases h with rfl|⟨q,hq,rfl⟩
  ·exact .refl _
  ·exact(List.Perm.swap ..).trans ((Np l q hq).cons x)
theorem gl {E:Xb}{K:Nat}{e:RM}{a:Nat}(Inv:List (List DL)->St->Prop)(b:∀l s,Inv l s->∀p∈QD l,∃d,TP E K e a s p.1=some d/\Inv p.2 d):
  ∀(n:Nat) (l:List (List DL)) (s:St),l.length=n->Inv l s->∃i,Ps E K e a n l s=some i/\∀s∈i,Inv [] s
 |n,[],s,_,hi=>⟨[s],by cases n<;>rfl,fun t g=>by simp at g;subst g;exact hi⟩
 |0,_::_,_,h,_=>by simp at h
 |n+1,c::cs,s,h,hi=>by
  have v:=gl Inv b n;obtain⟨k,r,u⟩:=nX (f:=fun p=>match TP E K e a s p.1 with
   |some d=>Ps E K e a n p.2 d
   |none=>none) (p:=fun i=>∀s∈i,Inv [] s) (l:=QD (c::cs)) fun p o=>by
    obtain⟨d,e1,e2⟩:=b _ s hi p o;have j:p.2.length=n:=by
     have:=(Np _ p o).length_eq;simp at this h;omega
    obtain⟨i,e3,q⟩:=v p.2 d j e2;exact⟨i,by simp only[e1,e3],q⟩
  have m:Ps E K e a (n+1) (c::cs) s=(match Xt (fun p=>match TP E K e a s p.1 with
   |some d=>Ps E K e a n p.2 d
   |none=>none) (QD (c::cs))with |some k=>some k.flatten|none=>none):=rfl
  rw[r]at m;refine⟨k.flatten,m,fun t g=> ?_⟩;obtain⟨l,j,g⟩:=List.mem_flatten.1 g;exact u l j t g
theorem Pn (H:List Xz)(O:BS)(g:Nat->Nat):Live O g (Xl (H.map Vo))=O:=by
 funext q;refine propext ⟨?_,.inl⟩;rintro (f|⟨i,d,a,e,_⟩)
 ·exact f
 ·simp only[Xl,Zx]at a;cases b:H[i]? with
  |none=>simp[b]at a
  |some c=>simp only[b,ZU,Za]at a;subst a;simp[Vo]at e
theorem Cy {P:Program}{f:Nat}{H:List Xz}{id:Nat}{b:Xz}{r:PV}(h:CH P f [.one (.mp 0)] [Vo b] (inj r) [Vo b])(W:H[id]? =some b)(Z:b.mp=true)(hp:∀c∈b.ch,∀d∈c,∃l,d=.p l):
  CH P f [.one (.mp id)] H (inj r) (H.map Vo):=by
 intro w O g vs J o;obtain⟨V,I⟩:=bT (w':=w) J (List.range H.length) (Zh _) (fun _ _=>rfl) rfl rfl rfl;rw[<-pM]at V I;have M:Xl H id=some b:=W;have L:Xl (H.map Vo) id=some (Vo b):=by simp only[Xl,Zx];rw[W];rfl
 have z:Live O (fun _=>g id) (Xl [Vo b])=O:=Pn [b] O _;have A:=Pn H O g;have D:∀v l,XP w O g (Xl (H.map Vo)) v (.p l)->XP w O (fun _=>g id) (Xl [Vo b]) v (.p l):=by
  intro v l S;cases S with |p _ _ B=>exact .p _ _ (by rw[z];rw[A]at B;exact B)
 have K:X4 w O (fun _=>g id) (Xl [Vo b]):=by
  have h0:∀i x,Xl [Vo b] i=some x->i=0/\x=Vo b:=by
   intro i x n;cases i with
   |zero=>simp[Xl]at n;exact⟨rfl,n.symm⟩
   |succ i=>simp[Xl]at n
  refine⟨fun i x n=> ?_,fun i j x y n hy _=>by rw[(h0 i x n).1,(h0 j y hy).1],fun i x n=>J.NI id b M,J.lt⟩;obtain⟨rfl,rfl⟩:=h0 i x n;have m:=I.QW id _ L;unfold WI at m⊢;have R:(Vo b).mp=true:=Z;rw[R,if_pos rfl]at m⊢;by_cases ht:Nat.beq (Vo b).ty 2=true
  ·rw[if_pos ht]at m⊢;exact m
  ·rw[if_neg ht]at m⊢;obtain⟨es,G,e1,e2,e3⟩:=m;refine⟨es,G,e1,e2,XF.VZ e3.length fun i e c N X=> ?_⟩;obtain⟨e',u,kv,xv,q1,q2,q3,q4⟩:=e3.get i c X;rw[N]at u;cases u;refine⟨kv,xv,q1,q2,q3,XF.VZ q4.length fun j v d T Y=> ?_⟩;obtain⟨l,rfl⟩:=hp c (Zt X) d (Zt Y);obtain⟨v',C,S⟩:=q4.get j _ Y;rw[T]at C;cases C;exact D _ _ S
 have a:XF (XC w O (fun _=>g id) (Xl [Vo b])) vs [.one (.mp 0)]:=by
  cases o with |cons E t=> ?_
  cases t;refine .cons ?_ .nil;have E:XP w O g (Xl H) _ (.mp id):=E;generalize a2:(‹Value›:Value)=v1 at E;cases E with |mp _ _ _ _=>exact XP.mp 0 (Vo b) rfl Z
 refine(h w O (fun _=>g id) vs K a).mono fun e F ⟨v,U,N,T,a0,q⟩=> ?_
 have Q:Live O U (Xl [Vo b])=O:=Pn [b] O _;have s:∀k,k<w.heap.size->F.heap[k]? =w.heap[k]? :=by
  intro k m;by_cases ho:O k
  ·exact q.js k ho
  ·exact q.keeps.V2 k m (by rw[z];exact ho)
 obtain⟨gm,gi⟩:=Tr (w':=F) I q.keeps.size s q.os q.tape q.output;refine⟨v,g,N,lB (fun v l B=> ?_) T,gi,V.trans gm⟩;rw[Q]at B;rw[A];exact B
end Go.Ev
namespace Go.Proofs.YtefpgecinlekpaaGreat
open Go.Ev Go.Num
def bZ (c:List DL):Option (List PL):=
 match Xt AH c with
 |some l=>match l.drop 8 with
  |[.bool n,y,z,u]=>match y with
   | .XJ=>bif isTerm (.bool n::y::z::u::l.take 8)then some (.bool n::y::z::u::l.take 8)else none
   | .Xv _=>bif isTerm (.bool n::y::z::u::l.take 8)then some (.bool n::y::z::u::l.take 8)else none
   |_=>none
  |_=>none
 |none=>none
def nz (t:List PL):Bool:=match t with
 |_::.Xv (_::_)::_=>true
 |_=>false
def Rr (args:List DV)(H:List Xz):Option (DV×List Xz):=
 match args with
 |[.one (.mp i)]=>match H[i]? with
  |some b=>bif b.mp&&Nat.beq b.ty 1&&Nat.beq b.sz 8&&Nat.blt b.ch.length 60000 then
    match Xt bZ b.ch with
    |some ts=>bif UM ts then some (inj (.one (.Xv (Tf (ts.filter nz)))),H.map Vo)else none
    |none=>none
   else none
  |none=>none
 |_=>none
theorem OY {c:List DL}{t:List PL}(h:bZ c=some t):∃n y z u m a,c=Xm m++[.p (.bool n),.p y,.p z,.p u]/\t=.bool n::y::z::u::mo m/\XL m/\Sl y a/\nz t= !a.isEmpty:=by
 unfold bZ at h;split at h
 ·rename_i l i;have f:=ku i;split at h
  ·rename_i n y z u g;have key:∀a,Sl y a->(bif isTerm (.bool n::y::z::u::l.take 8)then some (.bool n::y::z::u::l.take 8)else none)=some t->nz (.bool n::y::z::u::l.take 8)= !a.isEmpty->∃n y z u m a,c=Xm m++[.p (.bool n),.p y,.p z,.p u]/\t=.bool n::y::z::u::mo m/\XL m/\Sl y a/\nz t= !a.isEmpty:=by
    intro a j h k;obtain⟨d,rfl⟩:=Xw h;obtain⟨q,r,s,o,e,b⟩:=Wp d;generalize V0 (.bool n::y::z::u::l.take 8)=m at e b;simp only[ZF]at e;obtain⟨-,-,-,-,e⟩:=e;refine⟨n,y,z,u,m,a,?_,by rw[e],b,j,k⟩;rw[f,<-List.take_append_drop 8 l,g,List.map_append,e,XS];rfl
   split at h
   ·exact key [] .nil h rfl
   ·rename_i a;exact key a .Xv h (by cases a<;>rfl)
   ·cases h
  ·cases h
 ·cases h
theorem xy {B:Xr}(b:Std B){n:Bool}{y z u:PL}{d:List (List PL)}(e:Sl y d):
  ∃s,Xs B 132 [.agg [.bool n,y,z,u]] (.one (.int .i64 s))/\OX s (.ofNat 0)=d.isEmpty:=by
 have key:∃s,Xs B 157 [.agg [.bool n,y]] (.one (.int .i64 s))/\OX s (.ofNat 0)=d.isEmpty:=by
  cases d with
  |nil=>
   refine⟨.ofNat 0,Xs.of (b.X6 _ _ rfl) (b.Xi.mono fun E K a=> ?_),rfl⟩;simp only[Xp,Xq,reduceIte,Nat.reduceEqDiff,Nat.reduceLeDiff,Nat.reduceAdd,x157,e.len]
  |cons c d=>
   have h0:¬d.length+1=0:=by omega
   cases n with
   |true=>
    refine⟨.negSucc 0,Xs.of (b.X6 _ _ rfl) (b.Xi.mono fun E K a=> ?_),rfl⟩;simp only[Xp,Xq,reduceIte,Nat.reduceEqDiff,Nat.reduceLeDiff,Nat.reduceAdd,x157,e.len,h0]
   |false=>
    refine⟨.ofNat 1,Xs.of (b.X6 _ _ rfl) (b.Xi.mono fun E K a=> ?_),rfl⟩;simp only[Xp,Xq,reduceIte,Nat.reduceEqDiff,Nat.reduceLeDiff,Nat.reduceAdd,x157,e.len,h0]
 obtain⟨s,f,g⟩:=key;refine⟨s,Xs.of (b.X6 _ _ rfl) ((f.Xi.and b.Xi).mono fun E K ⟨e1,a⟩=> ?_),g⟩;simp only[Xp,Xq,reduceIte,Nat.reduceEqDiff,Nat.reduceLeDiff,Nat.reduceAdd,x132,a,XW,e1]
theorem tN {a b:Type}{p q:a->b->Prop}{x:a}{y:b}(h:p x y)(k:q x y):∃x y,p x y/\q x y:=⟨x,y,h,k⟩
abbrev EF:Xz:=⟨true,0,0,[],true,2⟩
theorem xL {E:Xb}{K:Nat}(f:E.mode=md){n:Bool}{y z u:PL}{m:List Nat}(q:m.length=8){s:Int}(r:E.pure 132 [.agg [.bool n,y,z,u]]=some (.one (.int .i64 s)))(h0:OX s (.ofNat 0)=false)
  {B0:Xz} {T:List (Nat×DV)} {v:Nat} {o:List (List PL)} {G:List Xz} (A:o.length<100000) (g:Xh T 3=some (.one (.own 1 v 0 o.length))) (d:Xh T 10=some (.one (.ptr 2 0 0 0))):
  ∃e h,TP E K uX 2 ⟨T,B0::⟨false,v,12,pc o,false,63⟩::EF::G⟩ (Xm m++[.p (.bool n),.p y,.p z,.p u])=some ⟨e,B0::⟨false,v+1,12,pc (o++[.bool n::y::z::u::mo m]),false,63⟩::EF::h⟩/\
   Xh e 3=some (.one (.own 1 (v+1) 0 (o.length+1)))/\Xh e 10=some (.one (.ptr 2 0 0 0)):=by
 have t:(Xm m++[DL.p (.bool n),.p y,.p z,.p u]).take 8=Xm m:=by rw[YU (by rw[Xa];omega),Zb (by rw[Xa];omega)]
 have i:(Xm m++[DL.p (.bool n),.p y,.p z,.p u]).drop 8=[.p (.bool n),.p y,.p z,.p u]:=by
  rw[YI (by rw[Xa];omega),Zj (by rw[Xa];omega)];rfl
 have w:(Xm m).take 8=Xm m:=Zb (by rw[Xa];omega);have x:(Xm m).drop 8=[]:=Zj (by rw[Xa];omega);have j:(o.length+1)*128<=lim:=by unfold lim;omega
 have k:o.length+1<=9223372036854775807:=by omega
 have l:∀(a b c:Xz),(G++[a,b]++[c])[G.length+2]? =some c:=by intro a b c;simp
 apply tN
 ·unfold TP;simp only[Xp,Xq,VN,uX,iL,t,i,reduceIte,Nat.reduceEqDiff,Nat.reduceLeDiff,Nat.reduceLT,Nat.reduceAdd,g,d,q,Xa,w,f,XW,r,h0,j,k,Wi,Vn,l,q6];rfl
 ·simp only[Xp,reduceIte,Nat.reduceEqDiff,g,d,and_self]
theorem A8 {E:Xb}{K:Nat}(c:E.mode=md){n:Bool}{y z u:PL}{m:List Nat}(g:m.length=8){s:Int}(h:E.pure 132 [.agg [.bool n,y,z,u]]=some (.one (.int .i64 s)))(h0:OX s (.ofNat 0)=true)
  {B0:Xz} {T:List (Nat×DV)} {v:Nat} {o:List (List PL)} {G:List Xz} (f:Xh T 3=some (.one (.own 1 v 0 o.length))) (a:Xh T 10=some (.one (.ptr 2 0 0 0))):
  ∃b d,TP E K uX 2 ⟨T,B0::⟨false,v,12,pc o,false,63⟩::EF::G⟩ (Xm m++[.p (.bool n),.p y,.p z,.p u])=some ⟨b,B0::⟨false,v,12,pc o,false,63⟩::EF::d⟩/\
   Xh b 3=some (.one (.own 1 v 0 o.length))/\Xh b 10=some (.one (.ptr 2 0 0 0)):=by
 have i:(Xm m++[DL.p (.bool n),.p y,.p z,.p u]).take 8=Xm m:=by rw[YU (by rw[Xa];omega),Zb (by rw[Xa];omega)]
 have e:(Xm m++[DL.p (.bool n),.p y,.p z,.p u]).drop 8=[.p (.bool n),.p y,.p z,.p u]:=by
  rw[YI (by rw[Xa];omega),Zj (by rw[Xa];omega)];rfl
 have k:(Xm m).take 8=Xm m:=Zb (by rw[Xa];omega);have j:(Xm m).drop 8=[]:=Zj (by rw[Xa];omega);apply tN
 ·unfold TP;simp only[Xp,Xq,VN,uX,iL,i,e,reduceIte,Nat.reduceEqDiff,Nat.reduceLeDiff,Nat.reduceAdd,a,g,Xa,c,XW,h,h0,q6];rfl
 ·simp only[Xp,reduceIte,Nat.reduceEqDiff,f,a,and_self]
theorem uC {B:Xr}(b:Ei B){L:Nat}(h:L<60000):X0 B fun E _=>∀(H:List Xz) (i v e:Nat) (a:List (List PL)),a.length=L->H[i]? =some ⟨false,v,12,pc a,false,e⟩->Ti a->UM a=true->
  E.heap 133 [.one (.own i v 0 a.length),.one (.p (.fn 134 []))] H=some (.XY [],H.set i ⟨false,v,12,pc (Tf a),false,e⟩):=by
 obtain⟨w,c,g⟩:=S1 b.toStd (n:=L) (by omega);obtain⟨N,k⟩:=g.Xi;obtain⟨M,j⟩:=b.toStd.Xi;refine⟨max N M+1,fun K n t u=> ?_⟩;obtain⟨n,rfl⟩:∃r,n=r+1:=⟨n-1,by omega⟩;have e1:=k K n (by omega) (by omega);have d:=j K n (by omega) (by omega);intro H i v e a m o q l;subst m;have e2:(B.E K n).heap _ _ _=_:=(B.Cv (K:=0) (n:=0) (Zs K) (Zs n)).heap _ _ _ _ (b.pdq _ _ _ (vk o q l h c));have f:a.length%18446744073709551616=a.length:=Zf (by omega);show(match B.X 133 with
  |some s=>VU (B.E K n) K s [.one (.own i v 0 a.length),.one (.p (.fn 134 []))] H
  |none=>(B.E K n).heap 133 [.one (.own i v 0 a.length),.one (.p (.fn 134 []))] H)=_
 rw[b.toStd.X6 133 x133 rfl];simp only[Xp,WR,Xq,reduceIte,Nat.reduceEqDiff,Nat.reduceLeDiff,Nat.reduceAdd,x133,d,XW,e1,e2,f]
def Cs (E:Xb)(ts:List (List PL)):Prop:=∀t∈ts,∀n y z u m,t=.bool n::y::z::u::m->∃s,E.pure 132 [.agg [.bool n,y,z,u]]=some (.one (.int .i64 s))/\OX s (.ofNat 0)= !nz t
theorem iY {B:Xr}(g:Std B):∀{ch:List (List DL)} {b:List (List PL)},Xt bZ ch=some b->X0 B fun E _=>Cs E b
 |[],b,h=>by cases h;exact X0.of fun _ _ t d=>by cases d
 |c::ch,b,h=>by
  simp only[Xt]at h;split at h
  ·cases h
  ·rename_i t d;split at h
   ·cases h
   ·rename_i v f;cases h;obtain⟨n,y,z,u,m,i,-,rfl,-,l,o⟩:=OY d;obtain⟨s,j,k⟩:=xy g (n:=n) (z:=z) (u:=u) l;refine((iY g f).and j.Xi).mono fun E K ⟨e1,e2⟩ r a q x A w p e=> ?_
    rcases Zk.1 a with rfl|a
    ·simp only[ZF,PL.bool.injEq]at e;obtain⟨rfl,rfl,rfl,rfl,-⟩:=e;exact⟨s,e2,by rw[k,o];cases i<;>rfl⟩
    ·exact e1 r a q x A w p e
abbrev oB (lo:PL):Xz:=⟨false,0,1,[[.p lo]],false,35⟩
theorem qF {H:List Xz}{i v j:Nat}{a:List (List PL)}{f d:Nat}{e:PL}{o:List (List Int)}(x:S6 e o)(u:VE o)(c:o.length<1000000)(r:H[i]? =some ⟨false,v,12,pc a,false,f⟩)(s:H[j]? =some (oB e))(b:j≠i)(w:Ti a)(q:UM a=true)(y:a.length<1000000)(t:d<100):
  Rh [.one (.own i v 0 a.length),.one (.p (.int .i64 (.ofNat 0))),.one (.p (.int .i64 (.ofNat a.length))),.one (.p (.int .i64 (.ofNat d))),.one (.fn 126 [.ptr j 0 0 0])] H=
   some (.XY [],H.set i ⟨false,v,12,pc (U8 o a),false,f⟩):=by
 have g:Nat.blt d 4611686018427387904=true:=PF (by omega);have k:Nat.blt a.length 1000000=true:=PF (by omega);have l:a.all isTerm=true:=ZP.2 w;have m:Nat.beq j i=false:=by
  cases h:Nat.beq j i with
  |false=>rfl
  |true=>exact absurd (Zm h) b
 have n:=yH x u c;simp only[Rh,keyOf,YG,g,m,n,r,s,kq,k,l,q,YT,Bool.not_false,cond_true];rfl
theorem uA {B:Xr}(b:StdO B){H:List Xz}{i v j:Nat}{a:List (List PL)}{h:Nat}{g:PL}{o:List (List Int)}(u:S6 g o)(s:VE o)(f:o.length<1000000)(q:H[i]? =some ⟨false,v,12,pc a,false,h⟩)(r:H[j]? =some (oB g))(e:j≠i)(t:Ti a)(p:UM a=true)(w:a.length<60000):
  UA B 125 [.one (.own i v 0 a.length),.one (.fn 126 [.ptr j 0 0 0])] H (.XY []) (H.set i ⟨false,v,12,pc (U8 o a),false,h⟩):=by
 obtain⟨x,c,l⟩:=S1 b.toStd (n:=a.length) (by omega);have m:=UA.base (B:=B) (b.pdq _ _ _ (qF u s f q r e t p (by omega) c));have k:a.length%18446744073709551616=a.length:=Zf (by omega);refine UA.of (b.X6 _ _ rfl) ((l.Xi.and (m.Xi.and b.toStd.Xi)).mono fun E K ⟨e1,e2,d⟩=> ?_);simp only[Xp,WR,Xq,reduceIte,Nat.reduceEqDiff,Nat.reduceLeDiff,Nat.reduceAdd,x125,d,XW,e1,e2,k]
theorem rL {B:Xr}(f:Std B){es:List (List PL)}(b:∀c∈es,c.length=12)(q:es.length<1000000)(e:Xz):
  UA B 124 [.one (.p (.Xv es))] [e] (.one (.own 1 1 0 es.length)) [e,⟨false,1,12,pc es,false,63⟩]:=by
 have a:=fun(h:HF)=>(Sl.Xv (es:=es)).chunks (h:=h)
 have i:es.length*128<=lim:=by unfold lim;omega
 have j:es.length<=9223372036854775807:=by omega
 have o:VS false [.one (.p (.Xv es)),.one (.p .XJ)]=some ⟨.one (.p (.bool false)),[],[],[]⟩:=rfl;have k:(es.map (·.map DL.p)).all (fun c=>decide (c.length=12))=true:=by
  rw[ZP];intro c g;simp only[ZH]at g;obtain⟨d,m,rfl⟩:=g;simp[b d m]
 have l:(es.map (·.map DL.p)).length=es.length:=by simp
 refine UA.of (f.X6 _ _ rfl) (f.Xi.mono fun E K n=> ?_);simp only[Xp,WR,Xq,reduceIte,Nat.reduceEqDiff,Nat.reduceLeDiff,Nat.reduceAdd,x124,a,i,j,o,k,l,pc]
theorem uB {B:Xr}(a:StdO B){H:List Xz}{g:Nat}{caps:List DL}:UA B 125 [.one (.p .XJ),.one (.fn g caps)] H (.XY []) H:=by
 obtain⟨c,f,d⟩:=S1 a.toStd (n:=0) (by omega);have h0:Nat.blt c 4611686018427387904=true:=PF (by omega);have e:=UA.base (B:=B) (a.pdq [.one (.p .XJ),.one (.p (.int .i64 (.ofNat 0))),.one (.p (.int .i64 (.ofNat 0))),.one (.p (.int .i64 (.ofNat c))),.one (.fn g caps)] H (.XY [],H) (by simp only[Rh,h0,cond_true]));refine UA.of (a.X6 _ _ rfl) ((d.Xi.and (e.Xi.and a.toStd.Xi)).mono fun E K ⟨e1,e2,b⟩=> ?_);simp only[Xp,WR,Xq,reduceIte,Nat.reduceEqDiff,Nat.reduceLeDiff,Nat.reduceAdd,x125,b,XW,e1,e2]
theorem rM {B:Xr}(a:Std B)(H:List Xz):UA B 124 [.one (.p .XJ)] H (.one (.p .XJ)) H:=by
 have c:VS false [.one (.p .XJ),.one (.p .XJ)]=some ⟨.one (.p (.bool true)),[],[],[]⟩:=rfl;refine UA.of (a.X6 _ _ rfl) (a.Xi.mono fun E K b=> ?_);simp only[Xp,WR,Xq,reduceIte,Nat.reduceEqDiff,Nat.reduceLeDiff,x124,c]
def Tk (ts:List Qm):Prop:=(ts.map (·.2)).Nodup
theorem dj:∀{e:List (List PL)} {a:List Qm},X2 e a->Tk a->UM e=true
 |_,_,.nil,_=>rfl
 |_,_,.cons (x:=c) (y:=t) hc h,hd=>by
  obtain⟨l,m⟩:=List.nodup_cons.1 hd;simp only[UM,Zp];refine⟨ZP.2 fun d f=> ?_,dj h m⟩;obtain⟨i,g⟩:=ZM.1 f;have j:=h.length;obtain⟨o,-⟩:=Zd.1 g;rename_i e a;have b:i<a.length:=by omega
  obtain⟨x,k,p⟩:=h.get i _ (Zg b);rw[g]at k;cases k;rw[hc.mM,p.mM];cases n:gw Nat.beq t.2 (a[i]).2 with
  |false=>rfl
  |true=>
   exfalso;apply l;show t.2∈a.map (·.2);rw[ef (fun _ _=>Zm) _ _ n];exact ZH.2 ⟨_,YR b,rfl⟩
theorem TW {B:Xr}(b:StdO B){w f:PL}{m:List Qm}{o:List (List Int)}(F:S6 f o)(C:VE o)(t:o.length<1000000)(d:PQ w m)(z:Tk m)(I:m.length<60000):
  ∃r,Xs B 83 [.one w,.one f] (.one r)/\PQ r (Va o m):=by
 obtain⟨a,D,d⟩:=d;have G:=d.length;have k:Uj 126 [.one (.ptr 0 0 0 0)]=some ⟨.one (.fn 126 [.ptr 0 0 0 0]),[],[],[]⟩:=rfl;rcases D with rfl|⟨rfl,rfl⟩
 ·have s:=dj d z;have x:=d.EL;have p:∀c∈a,c.length=12:=fun c y=>Qi.len (X2.aF d c y)
  have n:=rL b.toStd p (by omega) (oB f);have q:=uA b F C t (H:=[oB f,⟨false,1,12,pc a,false,63⟩]) (i:=1) (j:=0) (v:=1) rfl rfl (by decide) x s (by omega);have l:(U8 o a).length=a.length:=(SS a).length_eq;refine⟨.Xv (U8 o a),Xs.of (b.X6 _ _ rfl) ((n.Xi.and (q.Xi.and b.toStd.Xi)).mono fun E K ⟨e1,e2,e⟩=> ?_),⟨_,.Xv,d.sort⟩⟩;have u:=Ui (U8 o a) (YN l);have A:=fun h=>Ux 5 h (U8 o a)
  simp only[Xp,WR,Xq,reduceIte,Nat.reduceEqDiff,Nat.reduceLeDiff,Nat.reduceAdd,x83,k,e,XW,e1,e2,u,A,Wi,l,Zh]
 ·cases d;have n:=rM b.toStd [oB f];have q:=uB b (H:=[oB f]) (g:=126) (caps:=[.ptr 0 0 0 0]);refine⟨.XJ,Xs.of (b.X6 _ _ rfl) ((n.Xi.and (q.Xi.and b.toStd.Xi)).mono fun E K ⟨e1,e2,e⟩=> ?_),⟨[],.nil,.nil⟩⟩;simp only[Xp,WR,Xq,reduceIte,Nat.reduceEqDiff,Nat.reduceLeDiff,Nat.reduceAdd,x83,k,e,XW,e1,e2]
end Go.Proofs.YtefpgecinlekpaaGreat
