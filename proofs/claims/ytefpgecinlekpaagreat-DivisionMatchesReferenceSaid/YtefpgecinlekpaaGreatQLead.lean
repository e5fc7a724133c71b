/- Leading terms, in the program and the reference. -/
import Derived.Test.YtefpgecinlekpaaGreatQPol
set_option maxHeartbeats 16000000
set_option maxRecDepth 100000
namespace Go.Num
def Ud (o:List (List Int))(b:Qm):List Qm->Qm
 |[]=>b
 |t::ts=>Ud o (if WQ o t.2 b.2=.ofNat 1 then t else b) ts
theorem VC:∀(o:List (List Int)) (m n:List Nat),WQ o m n=.ofNat 1\/WQ o m n=.negSucc 0\/WQ o m n=.ofNat 0
 |[],m,n=>WA m n
 |r::o,m,n=>by
  simp only[WQ];split
  ·exact .inr (.inl rfl)
  ·split
   ·exact .inl rfl
   ·exact VC o m n
theorem QJ (o:List (List Int)):∀(a:List Qm) (b:Qm),Ud o b a=b\/Ud o b a∈a
 |[],b=>.inl rfl
 |t::a,b=>by
  simp only[Ud];split
  ·rcases QJ o a t with h|h
   ·exact .inr (by rw[h];exact Ze ..)
   ·exact .inr (Zc _ h)
  ·rcases QJ o a b with h|h
   ·exact .inl h
   ·exact .inr (Zc _ h)
end Go.Num
namespace Go.Proofs.YtefpgecinlekpaaGreat
open Go.Ev Go.Num
def AF (E:Xb)(f:Nat)(l:PL)(o:List (List Int))(ts:List Qm):Prop:=∀t∈ts,∀u∈ts,E.pure f [.one l,.agg (mo t.2),.agg (mo u.2)]=some (.one (.int .i64 (WQ o t.2 u.2)))
theorem va {B:Xr}(d:Std B){l:PL}{o:List (List Int)}(h:S6 l o)(e:VE o)(a:o.length<1000000){c:List Qm}(b:FY c):X0 B fun E _=>AF E 31 l o c:=
 Vg fun t f=>Vg fun u g=>(jg d h e (b t f) (b u g) a).Xi
theorem vl {B:Xr}(d:Std B){l:PL}{o:List (List Int)}(h:S6 l o)(e:VE o)(a:o.length<1000000){c:List Qm}(b:FY c):X0 B fun E _=>AF E 60 l o c:=
 Vg fun t f=>Vg fun u g=>(OM d h e (b t f) (b u g) a).Xi
abbrev mc (c:List PL):Xz:=⟨false,0,12,[c.map DL.p],false,63⟩
abbrev zT:List DL:=[.p (.bool false),.p .XJ,.p (.bool false),.p .XJ,.p (.int .i64 (.ofNat 0)),.p (.int .i64 (.ofNat 0)),.p (.int .i64 (.ofNat 0)),.p (.int .i64 (.ofNat 0)),.p (.int .i64 (.ofNat 0)),.p (.int .i64 (.ofNat 0)),.p (.int .i64 (.ofNat 0)),.p (.int .i64 (.ofNat 0))]
abbrev F1:List PL:=[.bool false,.XJ,.bool false,.XJ,.int .i64 (.ofNat 0),.int .i64 (.ofNat 0),.int .i64 (.ofNat 0),.int .i64 (.ofNat 0),.int .i64 (.ofNat 0),.int .i64 (.ofNat 0),.int .i64 (.ofNat 0),.int .i64 (.ofNat 0)]
theorem qu {E:Xb}{K:Nat}{N M:PL}{o:List (List Int)}{f:List Qm}(v:E.mode=md){c:List (List PL)}(C:Sl N c)(hl:c.length<1000000)(hc:AF E 31 M o f):∀{rest:List (List PL)} {w:List Qm},X2 rest w->(∀t∈w,t∈f)->∀(i k:Nat) (l:List PL) (b:Qm),Vd l b->b∈f->c.drop i=rest->i+rest.length=c.length->rest.length<k->
  ∃a d,Xc E K 0 [0,1,4,6,7] x29_1 k ⟨[(0,.one (.p N)),(1,.one (.p M)),(4,.one (.ptr 0 0 0 0)),(6,.one (.ptr 1 0 0 0)),(7,.one (.p (.int .i64 (.ofNat i))))],[⟨false,0,12,[zT],false,63⟩,mc l]⟩=some (.exit 0,⟨a,[⟨false,0,12,[zT],false,63⟩,mc d]⟩)/\(Xh a 4=some (.one (.ptr 0 0 0 0))/\Xh a 6=some (.one (.ptr 1 0 0 0)))/\Vd d (Ud o b w):=by
 intro rest w h;induction h with
 |nil=>
  intro _ i k l b A _ Q G R;obtain⟨k,rfl⟩:∃L,k=L+1:=⟨k-1,by omega⟩;have j:¬i<c.length:=by simp at G;omega
  have :∃a,Xc E K 0 [0,1,4,6,7] x29_1 (k+1) ⟨[(0,.one (.p N)),(1,.one (.p M)),(4,.one (.ptr 0 0 0 0)),(6,.one (.ptr 1 0 0 0)),(7,.one (.p (.int .i64 (.ofNat i))))],[⟨false,0,12,[zT],false,63⟩,mc l]⟩=some (.exit 0,⟨a,[⟨false,0,12,[zT],false,63⟩,mc l]⟩)/\(Xh a 4=some (.one (.ptr 0 0 0 0))/\Xh a 6=some (.one (.ptr 1 0 0 0))):=by
   apply VM
   ·rw[Xc];simp only[Xp,Xq,reduceIte,Nat.reduceEqDiff,x29_1,C.len,j];rfl
   ·simp only[Xp,reduceIte,Nat.reduceEqDiff,and_self]
  obtain⟨a,m,q⟩:=this;exact⟨a,l,m,q,A⟩
 |@cons ch t rest w T h U=>
  intro g i k l b A r Q G R;obtain⟨k,rfl⟩:∃L,k=L+1:=⟨k-1,by omega⟩;simp only[Zi]at G R;have j:i<c.length:=by omega
  obtain⟨gp,O⟩:=Xf Q;have n:=hc t (g t (Ze ..)) b r;have J:=T;have F:=A;obtain⟨x,y,z,u,rfl,-,S⟩:=J;obtain⟨x2,y2,z2,u2,rfl,-,hn⟩:=F;have V:=fun(hh:HF) (kd:IntKind)=>C.idx (h:=hh) (k:=kd) (sz:=12) gp (by simp[Xy,S.1])
  have P:Xe .i64 (.ofNat (i+1))=.ofNat (i+1):=wrap_i64 (by omega);have W:=S.1;have X:=hn.1;have Y:(Xm t.2).take 8=Xm t.2:=Zb (by rw[Xa];omega);have Z:(Xm b.2).take 8=Xm b.2:=Zb (by rw[Xa];omega);have dn:(Xm b.2).drop 8=[]:=Zj (by rw[Xa];omega);by_cases B:WQ o t.2 b.2=.ofNat 1
  ·obtain⟨a,d,m,q,D⟩:=U (fun s I=>g s (Zc _ I)) (i+1) k _ t T (g t (Ze ..)) O (by omega) (by omega);refine⟨a,d,?_,q,by simp only[Ud,if_pos B];exact D⟩;rw[B]at n;simp only[mc,Zw,XS]at m;rw[Xc];simp only[mc,Xp,Xq,VN,reduceIte,Nat.reduceEqDiff,Nat.reduceLeDiff,Nat.reduceLT,Nat.reduceAdd,x29_1,C.len,j,V,XS,Xa,Xy,W,X,Y,Z,dn,XK,XN,v,XW,n,P];exact m
  ·obtain⟨a,d,m,q,D⟩:=U (fun s I=>g s (Zc _ I)) (i+1) k _ b A r O (by omega) (by omega);refine⟨a,d,?_,q,by simp only[Ud,if_neg B];exact D⟩;have H:T5 (.ofNat 0) (WQ o t.2 b.2)=false:=by
    rcases VC o t.2 b.2 with e|e|e
    ·exact absurd e B
    ·rw[e];rfl
    ·rw[e];rfl
   simp only[mc,Zw,XS]at m;rw[Xc];simp only[mc,Xp,Xq,VN,reduceIte,Nat.reduceEqDiff,Nat.reduceLeDiff,Nat.reduceAdd,x29_1,C.len,j,V,XS,Xa,Xy,W,X,Y,Z,XK,XN,v,XW,n,H,P];exact m
theorem uY {B:Xr}(g:Std B){q e:PL}{o:List (List Int)}(Z:S6 e o)(T:VE o)(p:o.length<1000000){t:Qm}{a:List Qm}(d:PQ q (t::a))(hl:a.length<100000):∃c,Xs B 29 [.one q,.one e] (.XY [.agg c,.one (.bool true)])/\Vd c (Ud o t a):=by
 have m:=d.td;obtain⟨es,r,d⟩:=d;cases d with
 |@cons ch t rest a C h=>
  have A:=h.length;have P:=va g Z T p m;have b:∀E K,AF E 31 e o (t::a)->E.mode=md->rest.length+2<=K->∃c,UZ E K x29 [.one q,.one e]=some (.XY [.agg c,.one (.bool true)])/\Vd c (Ud o t a):=by
   intro E K j l hK;obtain⟨T',f,v,⟨H,I⟩,w⟩:=qu (K:=K) l r (by simp;omega) j h (fun s U=>Zc _ U) 1 K ch t C (Ze ..) rfl (by simp;omega) (by omega);refine⟨f,?_,w⟩;obtain⟨x,y,z,u,rfl,-,R⟩:=C;obtain⟨x2,y2,z2,u2,rfl,-,S⟩:=w;have D:=R.1;have Y:=S.1;have V:=fun(Q:HF) (W:IntKind)=>r.idx (h:=Q) (k:=W) (sz:=12) (i:=0) rfl (by simp[Xy,D])
   have tm:(Xm t.2).take 8=Xm t.2:=Zb (by rw[Xa];omega);have tn:(Xm (Ud o t a).2).take 8=Xm (Ud o t a).2:=Zb (by rw[Xa];omega);have dm:(Xm t.2).drop 8=[]:=Zj (by rw[Xa];omega);have dn:(Xm (Ud o t a).2).drop 8=[]:=Zj (by rw[Xa];omega);simp only[mc,Zw,XS]at v;have n:¬rest.length+1=0:=by omega
   simp only[Xp,Xq,VN,reduceIte,Nat.reduceEqDiff,Nat.reduceLeDiff,Nat.reduceAdd,x29,r.len,n,V,XS,Xa,D,Y,tm,tn,XK,v,H,I]
  obtain⟨N,O⟩:=P.and (g.Xi.and (X0.ge (B:=B) (rest.length+2)));obtain⟨J,L,M⟩:=O N N (Zh _) (Zh _);obtain⟨c,F,G⟩:=b _ N J L M;refine⟨c,⟨N,N+1,?_⟩,G⟩;show(match B.X 29 with
   |some xf=>UZ (B.E N N) N xf _
   |none=>(B.E N N).pure _ _)=_
  rw[g.X6 _ _ rfl];exact F
theorem qE {E:Xb}{K:Nat}{M:PL}{o:List (List Int)}{d:List Qm}(v:E.mode=md){all:List (List PL)}(hl:all.length<1000000)(hc:AF E 60 M o d):∀{rest:List (List PL)} {w:List Qm},X2 rest w->(∀t∈w,t∈d)->∀(i k:Nat) (j:List PL) (b:Qm) (G:List Xz),Vd j b->b∈d->all.drop i=rest->i+rest.length=all.length->rest.length<k->
  ∃a c n,Xc E K 0 [1,4,6,17,18,19] x58_1 k ⟨[(1,.one (.p M)),(4,.one (.ptr 0 0 0 0)),(6,.one (.ptr 1 0 0 0)),(17,.one (.p (.Xv all))),(18,.one (.p (.int .i64 (.ofNat all.length)))),(19,.one (.p (.int .i64 (.ofNat i))))],⟨false,0,12,[zT],false,63⟩::mc j::G⟩=some (.exit 0,⟨a,⟨false,0,12,[zT],false,63⟩::mc c::n⟩)/\(Xh a 4=some (.one (.ptr 0 0 0 0))/\Xh a 6=some (.one (.ptr 1 0 0 0)))/\Vd c (Ud o b w):=by
 intro rest w h;have sl:Sl (.Xv all) all:=.Xv;induction h with
 |nil=>
  intro _ i k j b G A _ P F Q;obtain⟨k,rfl⟩:∃L,k=L+1:=⟨k-1,by omega⟩;have g:¬i<all.length:=by simp at F;omega
  have :∃a,Xc E K 0 [1,4,6,17,18,19] x58_1 (k+1) ⟨[(1,.one (.p M)),(4,.one (.ptr 0 0 0 0)),(6,.one (.ptr 1 0 0 0)),(17,.one (.p (.Xv all))),(18,.one (.p (.int .i64 (.ofNat all.length)))),(19,.one (.p (.int .i64 (.ofNat i))))],⟨false,0,12,[zT],false,63⟩::mc j::G⟩=some (.exit 0,⟨a,⟨false,0,12,[zT],false,63⟩::mc j::G⟩)/\(Xh a 4=some (.one (.ptr 0 0 0 0))/\Xh a 6=some (.one (.ptr 1 0 0 0))):=by
   apply VM
   ·rw[Xc];simp only[Xp,Xq,reduceIte,Nat.reduceEqDiff,x58_1,g];rfl
   ·simp only[Xp,reduceIte,Nat.reduceEqDiff,and_self]
  obtain⟨a,l,q⟩:=this;exact⟨a,j,G,l,q,A⟩
 |@cons ch t rest w S h T=>
  intro f i k j b G A r P F Q;obtain⟨k,rfl⟩:∃L,k=L+1:=⟨k-1,by omega⟩;simp only[Zi]at F Q;have g:i<all.length:=by omega
  obtain⟨gp,N⟩:=Xf P;have m:=hc t (f t (Ze ..)) b r;have J:=S;have D:=A;obtain⟨x,y,z,u,rfl,-,R⟩:=J;obtain⟨x2,y2,z2,u2,rfl,-,hn⟩:=D;have U:=fun(hh:HF) (kd:IntKind)=>sl.idx (h:=hh) (k:=kd) (sz:=12) gp (by simp[Xy,R.1])
  have O:Xe .i64 (.ofNat (i+1))=.ofNat (i+1):=wrap_i64 (by omega);have V:=R.1;have W:=hn.1;have X:(Xm t.2).take 8=Xm t.2:=Zb (by rw[Xa];omega);have Y:(Xm b.2).take 8=Xm b.2:=Zb (by rw[Xa];omega);have Z:(Xm b.2).drop 8=[]:=Zj (by rw[Xa];omega);have w0:=Xo t.2;by_cases B:WQ o t.2 b.2=.ofNat 1
  ·obtain⟨a,c,n,l,q,C⟩:=T (fun s I=>f s (Zc _ I)) (i+1) k _ t (G++[⟨false,0,12,[.p (.bool x)::.p y::.p (.bool z)::.p u::Xm t.2],false,63⟩]) S (f t (Ze ..)) N (by omega) (by omega);refine⟨a,c,n,?_,q,by simp only[Ud,if_pos B];exact C⟩;rw[B]at m;simp only[mc,Zw,XS]at l;rw[Xc];simp only[mc,Xp,Xq,VN,reduceIte,Nat.reduceEqDiff,Nat.reduceLeDiff,Nat.reduceLT,Nat.reduceAdd,x58_1,g,U,XS,Xa,V,W,X,Y,Z,XK,XN,v,XW,m,O];exact l
  ·obtain⟨a,c,n,l,q,C⟩:=T (fun s I=>f s (Zc _ I)) (i+1) k _ b (G++[⟨false,0,12,[.p (.bool x)::.p y::.p (.bool z)::.p u::Xm t.2],false,63⟩]) A r N (by omega) (by omega);refine⟨a,c,n,?_,q,by simp only[Ud,if_neg B];exact C⟩;have H:T5 (.ofNat 0) (WQ o t.2 b.2)=false:=by
    rcases VC o t.2 b.2 with e|e|e
    ·exact absurd e B
    ·rw[e];rfl
    ·rw[e];rfl
   simp only[mc,Zw,XS]at l;rw[Xc];simp only[mc,Xp,Xq,VN,reduceIte,Nat.reduceEqDiff,Nat.reduceLeDiff,Nat.reduceAdd,x58_1,g,U,XS,Xa,V,W,X,Y,XK,XN,v,XW,m,H,O];exact l
theorem Xs.Fa {B:Xr}{f:Nat}{a:List PV}{b:W4}{p:PV->Prop}(g:B.X f=some b)(h:X0 B fun E K=>∃r,UZ E K b a=some r/\p r):∃r,Xs B f a r/\p r:=by
 obtain⟨N,e⟩:=h;obtain⟨r,c,d⟩:=e N N (Zh _) (Zh _);refine⟨r,⟨N,N+1,?_⟩,d⟩;show(match B.X f with
  |some b=>UZ (B.E N N) N b a
  |none=>(B.E N N).pure f a)=some r
 rw[g];exact c
theorem jm {B:Xr}(v:Std B){M L:PL}{o:List (List Int)}(so:S6 L o)(ho:VE o)(H:o.length<1000000){t:Qm}{f:List Qm}(m:PQ M (t::f))(hl:f.length<100000):∃c,Xs B 58 [.one M,.one L] (.XY [.agg c,.one (.bool true)])/\Vd c (Ud o t f):=by
 have F:=m.td;obtain⟨es,N,m⟩:=m;cases m with
 |@cons ch t rest f R h=>
  have l:=h.length;have Y:=vl v so ho H F;have q:=Sl.Vp N;obtain⟨r,W,c,rfl,X⟩:=Xs.Fa (p:=fun r=>∃c,r=.XY [.agg c,.one (.bool true)]/\Vd c (Ud o t f)) (v.X6 58 _ rfl) (a:=[.one M,.one L]) ((Y.and (v.Xi.and (X0.ge (rest.length+2)))).mono fun E K ⟨w,D,hK⟩=>by
   obtain⟨T',n,G',O,⟨U,V⟩,P⟩:=qE (K:=K) D (all:=rest) (by omega) w h (fun s hs=>Zc _ hs) 0 K ch t [] R (Ze ..) rfl (by omega) (by omega);refine⟨_,?_,n,rfl,P⟩;have A:∀d∈rest,d.length=12:=by
    intro d Z;obtain⟨i,Q⟩:=ZM.1 Z;have :i<f.length:=by rw[<-l];exact(Zd.1 Q).1
    obtain⟨d',g,I⟩:=h.get i _ (Zg this);rw[Q]at g;obtain rfl:=Option.some.inj g;obtain⟨a,b,c,e,rfl,-,I⟩:=I;simp[Xy,I.1]
   obtain⟨x,y,z,u,rfl,-,hm⟩:=R;obtain⟨x2,y2,z2,u2,rfl,-,hn⟩:=P;have T:=hm.1;have n8:=hn.1;have S:=fun(C:HF) (kd:IntKind)=>N.idx (h:=C) (k:=kd) (sz:=12) (i:=0) rfl (by simp[Xy,T])
   have tm:(Xm t.2).take 8=Xm t.2:=Zb (by rw[Xa];omega);have tn:(Xm (Ud o t f).2).take 8=Xm (Ud o t f).2:=Zb (by rw[Xa];omega);have dm:(Xm t.2).drop 8=[]:=Zj (by rw[Xa];omega);have dn:(Xm (Ud o t f).2).drop 8=[]:=Zj (by rw[Xa];omega);simp only[mc,Zw,XS]at O;have G:¬rest.length+1=0:=by omega
   have J:=fun C=>VW (c:=.bool x::y::.bool z::u::mo t.2) A C
   have j:=N.len;rw[q]at S j⊢;simp only[Xp,Xq,VN,reduceIte,Nat.reduceEqDiff,Nat.reduceLeDiff,Nat.reduceAdd,x58,j,Sl.Xv.len,J,G,S,XS,Xa,T,n8,tm,tn,XK,O,U,V])
  exact⟨c,W,X⟩
end Go.Proofs.YtefpgecinlekpaaGreat
namespace Go.Num
def Wl (o:List (List Int)):List Qm->Option Qm
 |[]=>none
 |t::ts=>some (Ud o t ts)
def Ts (o:List (List Int))(m:List Nat):List (List Qm)->Nat->Option Nat
 |[],_=>none
 |f::fs,i=>match Wl o f with
  |some s=>if X9 s.2 m=true then some i else Ts o m fs (i+1)
  |none=>Ts o m fs (i+1)
def XR (t s:Qm):Qm:=(t.1 / s.1,WW t.2 s.2)
end Go.Num
namespace Go.Proofs.YtefpgecinlekpaaGreat
open Go.Ev Go.Num
theorem uZ {B:Xr}(d:Std B){c e:PL}(b:PQ c []):Xs B 29 [.one c,.one e] (.XY [.agg F1,.one (.bool false)]):=by
 obtain⟨g,f,b⟩:=b;cases b;have a:=f.len;refine Xs.of (d.X6 _ _ rfl) (X0.of fun K n=> ?_);simp only[Xp,Xq,reduceIte,Nat.reduceEqDiff,Nat.reduceLeDiff,x29,a]
theorem Uh {B:Xr}(e:Std B){h g:PL}{o:List (List Int)}(m:S6 g o)(l:VE o)(d:o.length<1000000){a:List Qm}(f:PQ h a)(k:a.length<100000):∃c b,Xs B 29 [.one h,.one g] (.XY [.agg c,.one (.bool b)])/\match Wl o a with |some s=>b=true/\Vd c s|none=>b=false/\c=F1:=by
 cases a with
 |nil=>exact⟨F1,false,uZ e f,rfl,rfl⟩
 |cons t a=>
  obtain⟨c,i,j⟩:=uY e m l d f (by simp at k;omega);exact⟨c,true,i,rfl,j⟩
theorem bE {B:Xr}(a:Std B){c d:List PL}{t s:Qm}(l:Vd c t)(m:Vd d s)(o:Sq t.1)(n:Sq s.1)(h0:s.1≠0)(g:X9 s.2 t.2=true):∃e,Xs B 51 [.agg c,.agg d] (.agg e)/\Vd e (XR t s):=by
 obtain⟨x,y,z,u,rfl,v,b⟩:=l;obtain⟨M,N,O,L,rfl,w,f⟩:=m;obtain⟨e,j,i⟩:=Dq a v w o n h0;have k:=xJ a b f g;obtain⟨G,H,I,J,rfl⟩:=i.len;have q:=b.1;have r:=f.1;have p:=(Qv b f).1;have C:(Xm t.2).take 8=Xm t.2:=Zb (by rw[Xa];omega);have D:(Xm s.2).take 8=Xm s.2:=Zb (by rw[Xa];omega);have A:(Xm (WW t.2 s.2)).take 8=Xm (WW t.2 s.2):=Zb (by rw[Xa];omega);have F:(Xm (WW t.2 s.2)).drop 8=[]:=Zj (by rw[Xa];omega);refine⟨_,Xs.of (a.X6 _ _ rfl) ((j.Xi.and (k.Xi.and a.Xi)).mono fun E K ⟨e1,e2,h⟩=> ?_),Vd.mk i (Qv b f)⟩;simp(decide:=true)only[Xp,Xq,reduceIte,Nat.reduceAdd,x51,XS,Xa,q,r,p,C,D,A,XK,XN,h,XW,e1,e2]
theorem PX {B:Xr}(d:Std B){c:List PL}{t:Qm}(i:Vd c t)(o:Sq t.1)(h0:t.1≠0){l:PL}{b:List Qm}(m:PQ l b)(n:Sz b)(k:∀u∈b,XL (Xg t.2 u.2))(j:b.length<1000000):
  ∃a,Xs B 52 [.agg c,.one l] (.one (.Xv a))/\X2 a (X3 t.1 t.2 b):=by
 obtain⟨x,y,z,u,rfl,q,f⟩:=i;obtain⟨a,g,h⟩:=N4 d q o h0 f m n k j;have p:=f.1;have r:(Xm t.2).take 8=Xm t.2:=Zb (by rw[Xa];omega);refine⟨a,Xs.of (d.X6 _ _ rfl) ((g.Xi.and d.Xi).mono fun E K ⟨e1,e⟩=> ?_),h⟩;simp(decide:=true)only[Xp,Xq,reduceIte,Nat.reduceAdd,x52,XS,Xa,p,r,XK,XN,e,XW,e1]
theorem DX {a b:Type}{p q:a->b->Prop}{x:a}{y:b}(h:p x y)(k:q x y):∃x y,p x y/\q x y:=⟨x,y,h,k⟩
abbrev T6 (ls:List PL)(fs:List (List Qm)):Prop:=XF PQ ls fs
def Xu (ls:List PL):List (List PL):=ls.map fun p=>[p]
theorem XI {a:List PL}{i:Nat}{p:PL}(h:a[i]? =some p):(Xu a)[i]? =some [p]:=by simp[Xu,h]
theorem XH (a:List PL):(Xu a).length=a.length:=by simp[Xu]
inductive PB (E:Xb)(lo:PL)(m:List Nat):List PL->Nat->Option Nat->Prop
 |nil {i:Nat}:PB E lo m [] i none
 |skip {p x y z u:PL} {k:List Nat} {ps:List PL} {i:Nat} {r:Option Nat} (hk:k.length=8) (h1:E.pure 29 [.one p,.one lo]=some (.XY [.agg (x::y::z::u::mo k),.one (.bool false)])) (h:PB E lo m ps (i+1) r):PB E lo m (p::ps) i r
 |no {p x y z u:PL} {k:List Nat} {ps:List PL} {i:Nat} {r:Option Nat} (hk:k.length=8) (h1:E.pure 29 [.one p,.one lo]=some (.XY [.agg (x::y::z::u::mo k),.one (.bool true)])) (h2:E.pure 85 [.agg (mo k),.agg (mo m)]=some (.one (.bool false))) (h:PB E lo m ps (i+1) r):PB E lo m (p::ps) i r
 |yes {p x y z u:PL} {k:List Nat} {ps:List PL} {i:Nat} (hk:k.length=8) (h1:E.pure 29 [.one p,.one lo]=some (.XY [.agg (x::y::z::u::mo k),.one (.bool true)])) (h2:E.pure 85 [.agg (mo k),.agg (mo m)]=some (.one (.bool true))):PB E lo m (p::ps) i (some i)
theorem gk {B:Xr}(q:Std B){t:PL}{o:List (List Int)}(F:S6 t o)(A:VE o)(e:o.length<1000000){m:List Nat}(w:XL m):∀{D:List PL} {l:List (List Qm)},T6 D l->(∀f∈l,f.length<100000)->∀i,X0 B fun E _=>PB E t m D i (Ts o m l i)
 |_,_,.nil,_,i=>X0.of fun _ _=>.nil
 |_,_,.cons (x:=p) (y:=f) hp h,hl,i=>by
  have C:=gk q F A e w h (fun g H=>hl g (Zc _ H)) (i+1);obtain⟨c,b,n,a⟩:=Uh q F A e hp (hl f (Ze ..));unfold Ts;cases d:Wl o f with
  |none=>
   simp only[d]at a;obtain⟨rfl,rfl⟩:=a;refine(C.and n.Xi).mono fun E K ⟨e1,e2⟩=> ?_
   exact .skip (k:=[0,0,0,0,0,0,0,0]) rfl e2 e1
  |some s=>
   simp only[d]at a;obtain⟨rfl,a⟩:=a;obtain⟨x,y,z,u,rfl,-,r⟩:=a;have j:=Pc q r.1 w.1;show X0 B fun E _=>PB E t m (p::_) i (if X9 s.2 m=true then some i else Ts o m _ (i+1))
   cases v:X9 s.2 m with
   |true=>
    rw[v]at j;refine(n.Xi.and j.Xi).mono fun E K ⟨e1,e2⟩=> ?_
    rw[if_pos rfl];exact .yes r.1 e1 e2
   |false=>
    rw[v]at j;refine(C.and (n.Xi.and j.Xi)).mono fun E K ⟨G,e1,e2⟩=> ?_
    rw[if_neg (by simp)];exact .no r.1 e1 e2 G
theorem zB {E:Xb}{K:Nat}{L R:PL}{m:List Nat}(g:E.mode=md)(Q:m.length=8){b:List PL}(n:Sl L (Xu b))(U:b.length<1000000):∀{rest:List PL} {i:Nat} {r:Option Nat},PB E R m rest i r->∀(k:Nat) (G:List Xz),b.drop i=rest->i+rest.length=b.length->rest.length<k->
  ∃o t,Xc E K 0 [0,1,5,7] x50_1 k ⟨[(0,.one (.p L)),(1,.one (.p R)),(5,.one (.ptr 0 0 0 0)),(7,.one (.p (.int .i64 (.ofNat i))))],⟨false,0,8,[Xm m],false,51⟩::G⟩=some (match r with |some _=>.ret|none=>.exit 0,⟨o,t⟩)/\match r with |some j=>Xh o 6=some (.one (.p (.int .i64 (.ofNat j))))|none=>True:=by
 intro rest i r h;induction h with
 |@nil i=>
  intro k G q f s;obtain⟨k,rfl⟩:∃l,k=l+1:=⟨k-1,by omega⟩;have d:¬i<b.length:=by simp at f;omega
  have a:=n.len;rw[XH]at a;apply DX
  ·rw[Xc];simp only[Xp,Xq,reduceIte,Nat.reduceEqDiff,x50_1,a,d];rfl
  ·trivial
 |@skip p x y z u c S i r e w h N=>
  intro k G q f s;obtain⟨k,rfl⟩:∃l,k=l+1:=⟨k-1,by omega⟩;simp only[Zi]at f s;have d:i<b.length:=by omega
  have a:=n.len;rw[XH]at a;obtain⟨v,D⟩:=Xf q;have B:=fun(A:HF) (C:IntKind)=>n.idx (h:=A) (k:=C) (sz:=1) (XI v) rfl
  have H:Xe .i64 (.ofNat (i+1))=.ofNat (i+1):=wrap_i64 (by omega);have F:(Xm c).take 8=Xm c:=Zb (by rw[Xa];omega);have P:(Xm c).drop 8=[]:=Zj (by rw[Xa];omega);have T:=Xo c;obtain⟨o,t,I,J⟩:=N k (G++[⟨false,0,12,[.p x::.p y::.p z::.p u::Xm c],false,63⟩]) D (by omega) (by omega);refine⟨o,t,?_,J⟩;rw[Xc];simp only[Xp,Xq,VN,reduceIte,Nat.reduceEqDiff,Nat.reduceLeDiff,Nat.reduceAdd,x50_1,a,d,B,XS,Xa,e,g,XW,w,H];exact I
 |@no p x y z u c S i r e w M h N=>
  intro k G q f s;obtain⟨k,rfl⟩:∃l,k=l+1:=⟨k-1,by omega⟩;simp only[Zi]at f s;have d:i<b.length:=by omega
  have a:=n.len;rw[XH]at a;obtain⟨v,D⟩:=Xf q;have B:=fun(A:HF) (C:IntKind)=>n.idx (h:=A) (k:=C) (sz:=1) (XI v) rfl
  have H:Xe .i64 (.ofNat (i+1))=.ofNat (i+1):=wrap_i64 (by omega);have F:(Xm c).take 8=Xm c:=Zb (by rw[Xa];omega);have P:(Xm c).drop 8=[]:=Zj (by rw[Xa];omega);have O:(Xm m).take 8=Xm m:=Zb (by rw[Xa];omega);have T:=Xo c;obtain⟨o,t,I,J⟩:=N k (G++[⟨false,0,12,[.p x::.p y::.p z::.p u::Xm c],false,63⟩]) D (by omega) (by omega);refine⟨o,t,?_,J⟩;rw[Xc];simp only[Xp,Xq,VN,reduceIte,Nat.reduceEqDiff,Nat.reduceLeDiff,Nat.reduceAdd,x50_1,a,d,B,XS,Xa,e,Q,F,O,XK,XN,g,XW,w,M,H];exact I
 |@yes p x y z u c S i e w M=>
  intro k G q f s;obtain⟨k,rfl⟩:∃l,k=l+1:=⟨k-1,by omega⟩;simp only[Zi]at f s;have d:i<b.length:=by omega
  have a:=n.len;rw[XH]at a;obtain⟨v,D⟩:=Xf q;have B:=fun(A:HF) (C:IntKind)=>n.idx (h:=A) (k:=C) (sz:=1) (XI v) rfl
  have F:(Xm c).take 8=Xm c:=Zb (by rw[Xa];omega);have P:(Xm c).drop 8=[]:=Zj (by rw[Xa];omega);have O:(Xm m).take 8=Xm m:=Zb (by rw[Xa];omega);have T:=Xo c;apply DX
  ·rw[Xc];simp only[Xp,Xq,VN,reduceIte,Nat.reduceEqDiff,Nat.reduceLeDiff,Nat.reduceAdd,x50_1,a,d,B,XS,Xa,e,Q,F,O,XK,XN,g,XW,w,M];rfl
  ·simp only[Xp,reduceIte,Nat.reduceEqDiff]
def ry:Option Nat->Int
 |some j=>.ofNat j
 |none=>.negSucc 0
theorem jN {B:Xr}(d:Std B){L p:PL}{o:List (List Int)}(v:S6 p o)(t:VE o)(i:o.length<1000000){m:List Nat}(e:XL m){k:List PL}{a:List (List Qm)}(u:Sl L (Xu k))(h:T6 k a)(s:∀f∈a,f.length<100000)(r:a.length<100000):Xs B 50 [.one L,.one p,.agg (mo m)] (.one (.int .i64 (ry (Ts o m a 0)))):=by
 have l:=h.length;refine Xs.of (d.X6 _ _ rfl) (((gk d v t i e h s 0).and (d.Xi.and (X0.ge (k.length+1)))).mono fun E K ⟨e1,g,y⟩=> ?_);obtain⟨x,w,b,c⟩:=zB (K:=K) g e.1 u (by omega) e1 K [] rfl (by omega) (by omega);have q:=e.1;cases n:Ts o m a 0 with
 |none=>
  simp only[n]at b c;simp only[Xp,Xq,reduceIte,Nat.reduceEqDiff,Nat.reduceLeDiff,Nat.reduceAdd,x50,XS,Xa,q,b,ry]
 |some j=>
  simp only[n]at b c;simp only[Xp,Xq,reduceIte,Nat.reduceEqDiff,Nat.reduceLeDiff,Nat.reduceAdd,x50,XS,Xa,q,b,c,ry]
end Go.Proofs.YtefpgecinlekpaaGreat
namespace Go.Num
inductive ma (o:List (List Int))(sz:List Qm->Prop)(ok:List Nat->Prop)(fs:List (List Qm)):List Qm->List (List Qm)->List Qm->List (List Qm)->List Qm->Prop
 |done {qs:List (List Qm)} {r:List Qm}:ma o sz ok fs [] qs r qs r
 |rem {left:List Qm} {t:Qm} {qs qs':List (List Qm)} {r r':List Qm} (c1:sz left) (c2:sz r) (c3:sz [t]) (hl:Wl o left=some t) (hf:Ts o t.2 fs 0=none)
   (h:ma o sz ok fs (Vu left (Ri [t])) qs (Vu r [t]) qs' r'):ma o sz ok fs left qs r qs' r'
 |div {left:List Qm} {t s:Qm} {i:Nat} {f q:List Qm} {qs qs':List (List Qm)} {r r':List Qm} (c1:sz left) (c2:sz f) (c3:sz [t]) (c4:sz [s]) (c5:sz [XR t s]) (c6:sz q) (c7:sz (X3 (XR t s).1 (XR t s).2 f)) (c8:s.1≠0) (c9:(XR t s).1≠0) (c10:∀u∈f,ok (Xg (XR t s).2 u.2))
   (hl:Wl o left=some t) (hf:Ts o t.2 fs 0=some i) (hi:fs[i]? =some f) (hs:Wl o f=some s) (hd:X9 s.2 t.2=true) (hq:qs[i]? =some q)
   (h:ma o sz ok fs (Vu left (Ri (X3 (XR t s).1 (XR t s).2 f))) (qs.set i (Vu q [XR t s])) r qs' r'):ma o sz ok fs left qs r qs' r'
end Go.Num
namespace Go.Proofs.YtefpgecinlekpaaGreat
open Go.Ev Go.Num
def PR (ts:List Qm):Prop:=Sz ts/\ts.length<50000
theorem PR.one {t:Qm}(h:PR [t]):Sq t.1:=h.1 t (Ze ..)
structure Fv (E:Xb)(lo L lleft lr:PL)(t1 t2 t3 t4:PL)(m:List Nat)(lf' r':List (List PL)):Prop where
 lead:E.pure 29 [.one lleft,.one lo]=some (.XY [.agg (t1::t2::t3::t4::mo m),.one (.bool true)])
 first :E.pure 50 [.one L,.one lo,.agg (mo m)]=some (.one (.int .i64 (.negSucc 0)))
 add:E.pure 28 [.one lr,.one (.Xv [t1::t2::t3::t4::mo m])]=some (.one (.Xv r'))
 sub:E.pure 43 [.one lleft,.one (.Xv [t1::t2::t3::t4::mo m])]=some (.one (.Xv lf'))
abbrev vr (n:Nat)(lr:PL):Xz:=⟨false,0,3,[[.own 1 0 0 n,.p lr,.p (.int .i64 (.ofNat 0))]],false,39⟩
abbrev qB (lqs:List PL):Xz:=⟨false,0,1,pc (Xu lqs),false,30⟩
theorem u9 {E:Xb}{K k:Nat}{g L a l x y z A:PL}{m:List Nat}{c o:List (List PL)}(f:E.mode=md)(v:m.length=8)(d:Fv E g L a l x y z A m c o){n:Nat}{j:List (List PL)}(w:Sl a j)(e:0<j.length)(h i:Xz)(G:List Xz):
  ∃q,Xc E K 0 [1,2,6,7,8] x12_1 (k+1) ⟨[(1,.one (.p L)),(2,.one (.p g)),(6,.one (.ptr 0 0 0 0)),(7,.one (.ptr 2 0 0 0)),(8,.one (.p a))],h::i::vr n l::G⟩=Xc E K 0 [1,2,6,7,8] x12_1 k ⟨[(1,.one (.p L)),(2,.one (.p g)),(6,.one (.ptr 0 0 0 0)),(7,.one (.ptr 2 0 0 0)),(8,.one (.p (.Xv c)))],h::i::vr n (.Xv o)::q⟩:=by
 have b:=w.len;have B:(Xm m).take 8=Xm m:=Zb (by rw[Xa];omega);have C:(Xm m).drop 8=[]:=Zj (by rw[Xa];omega);have D:=Xo m;have r:=d.lead;have s:=d.first;have t:=d.add;have u:=d.sub;apply Exists.intro;rw[Xc];simp(decide:=true)only[Xp,Xq,VN,WR,reduceIte,Nat.reduceLeDiff,Nat.reduceAdd,x12_1,b,e,XS,Xa,v,B,XK,XN,f,XW,PL.scalar,Vh,V6,Zq,r,s,t,u];rfl
theorem sT {a:List PL}{i:Nat}{p:PL}(h:a[i]? =some p):(pc (Xu a))[i]? =some [.p p]:=by simp[pc,Xu,h]
theorem sS (a:List PL)(i:Nat)(p:PL):(pc (Xu a)).set i [.p p]=pc (Xu (a.set i p)):=by simp[pc,Xu,List.map_set]
theorem kT (a:List PL):(pc (Xu a)).length=a.length:=by simp[pc,Xu]
structure FD (E:Xb)(lo L lleft:PL)(t1 t2 t3 t4:PL)(m:List Nat)(i:Nat)(pf:PL)(s1 s2 s3 s4:PL)(m2:List Nat)(e1 e2 e3 e4:PL)(m3:List Nat)(pq:PL)(q' pr lf':List (List PL)):Prop where
 lead:E.pure 29 [.one lleft,.one lo]=some (.XY [.agg (t1::t2::t3::t4::mo m),.one (.bool true)])
 first :E.pure 50 [.one L,.one lo,.agg (mo m)]=some (.one (.int .i64 (.ofNat i)))
 Ff:E.pure 29 [.one pf,.one lo]=some (.XY [.agg (s1::s2::s3::s4::mo m2),.one (.bool true)])
 E9:E.pure 51 [.agg (t1::t2::t3::t4::mo m),.agg (s1::s2::s3::s4::mo m2)]=some (.agg (e1::e2::e3::e4::mo m3))
 add:E.pure 28 [.one pq,.one (.Xv [e1::e2::e3::e4::mo m3])]=some (.one (.Xv q'))
 times:E.pure 52 [.agg (e1::e2::e3::e4::mo m3),.one pf]=some (.one (.Xv pr))
 sub:E.pure 43 [.one lleft,.one (.Xv pr)]=some (.one (.Xv lf'))
theorem wx {E:Xb}{K k:Nat}{s L a z t1 t2 t3 t4 Z s2 s3 s4 e1 e2 e3 J B C:PL}{m d e:List Nat}{i:Nat}{D Y g:List (List PL)}(r:E.mode=md)(V:m.length=8)(o:d.length=8)(q:e.length=8)(c:FD E s L a t1 t2 t3 t4 m i B Z s2 s3 s4 d e1 e2 e3 J e C D Y g){x:List (List PL)}(sl:Sl a x)(j:0<x.length)
  {A:List PL} (t:Sl L (Xu A)) (T:A[i]? =some B) {b:List PL} (y:b[i]? =some C) (w:Xz) (G:List Xz):
  ∃F,Xc E K 0 [1,2,6,7,8] x12_1 (k+1) ⟨[(1,.one (.p L)),(2,.one (.p s)),(6,.one (.ptr 0 0 0 0)),(7,.one (.ptr 2 0 0 0)),(8,.one (.p a))],w::qB b::vr b.length z::G⟩=Xc E K 0 [1,2,6,7,8] x12_1 k ⟨[(1,.one (.p L)),(2,.one (.p s)),(6,.one (.ptr 0 0 0 0)),(7,.one (.ptr 2 0 0 0)),(8,.one (.p (.Xv g)))],w::qB (b.set i (.Xv D))::vr b.length z::F⟩:=by
 have f:=sl.len;have tm:(Xm m).take 8=Xm m:=Zb (by rw[Xa];omega);have dk:(Xm m).drop 8=[]:=Zj (by rw[Xa];omega);have w0:=Xo m;have u:(Xm d).take 8=Xm d:=Zb (by rw[Xa];omega);have H:(Xm d).drop 8=[]:=Zj (by rw[Xa];omega);have v:(Xm e).take 8=Xm e:=Zb (by rw[Xa];omega);have I:(Xm e).drop 8=[]:=Zj (by rw[Xa];omega);have l:=sT y;have n:i<b.length:=(Zd.mp y).1;have w2:=Xo d;have w3:=Xo e;have M:=c.lead;have N:=c.first;have O:=c.Ff;have P:=c.E9;have Q:=c.add;have R:=c.times;have S:=c.sub;have W:=fun(U:HF) (X:IntKind)=>t.idx (h:=U) (k:=X) (sz:=1) (XI T) rfl
 apply Exists.intro;rw[Xc];simp(decide:=true)only[Xp,Xq,VN,WR,reduceIte,Nat.reduceEqDiff,Nat.reduceLeDiff,Nat.reduceAdd,x12_1,f,j,XS,Xa,V,o,q,tm,XK,XN,r,XW,PL.scalar,Vh,V6,Zq,M,N,O,P,Q,R,S,W,Zl,u,v,l,n,sS,Nat.not_lt_zero];rfl
inductive rP (E:Xb)(lo L:PL)(ls:List PL)(N:Nat):Nat->PL->List PL->PL->List PL->PL->Prop
 |done {lf:PL} {qs:List PL} {r:PL} (sl:Sl lf []) (hN:qs.length=N):rP E lo L ls N 0 lf qs r qs r
 |rem {n:Nat} {lf r:PL} {qs qs':List PL} {r':PL} {t1 t2 t3 t4:PL} {m:List Nat} {lf1 r1 es:List (List PL)} (hm:m.length=8) (hr:Fv E lo L lf r t1 t2 t3 t4 m lf1 r1) (sl:Sl lf es) (hes:0<es.length)
   (h:rP E lo L ls N n (.Xv lf1) qs (.Xv r1) qs' r'):rP E lo L ls N (n+1) lf qs r qs' r'
 |div {n i:Nat} {lf r pf pq:PL} {qs qs':List PL} {r':PL} {t1 t2 t3 t4 s1 s2 s3 s4 e1 e2 e3 e4:PL} {m m2 m3:List Nat} {q1 pr lf1 es:List (List PL)} (hm:m.length=8) (hm2:m2.length=8) (hm3:m3.length=8)
   (hr:FD E lo L lf t1 t2 t3 t4 m i pf s1 s2 s3 s4 m2 e1 e2 e3 e4 m3 pq q1 pr lf1) (sl:Sl lf es) (hes:0<es.length) (hL:ls[i]? =some pf) (hq:qs[i]? =some pq) (hN:qs.length=N)
   (h:rP E lo L ls N n (.Xv lf1) (qs.set i (.Xv q1)) r qs' r'):rP E lo L ls N (n+1) lf qs r qs' r'
theorem Vd.eight {c:List PL}{t:Qm}(h:Vd c t):∃f g i j,c=f::g::i::j::mo t.2:=by
 obtain⟨a,b,d,e,rfl,-,-⟩:=h;exact⟨_,_,_,_,rfl⟩
theorem Vd.Pk {c:List PL}{t:Qm}(h:Vd c t):XL t.2:=by
 obtain⟨a,b,d,e,-,-,h⟩:=h;exact h
theorem Vd.one {c:List PL}{t:Qm}(h:Vd c t):PQ (.Xv [c]) [t]:=⟨[c],.Xv,.cons h .nil⟩
theorem jB {o:List (List Int)}{a:List Qm}{t:Qm}(h:Wl o a=some t):0<a.length:=by
 cases a with
 |nil=>cases h
 |cons _ _=>simp
theorem T6.get {b:List PL}{a:List (List Qm)}(h:T6 b a):∀{i:Nat} {f:List Qm},a[i]? =some f->∃p,b[i]? =some p/\PQ p f:=by
 induction h with
 |nil=>intro i f h;cases h
 |@cons x y k l e j g=>
  intro i f h;cases i with
  |zero=>rw[Yq]at h;cases h;exact⟨x,rfl,e⟩
  |succ i=>rw[Z9]at h;obtain⟨p,c,d⟩:=g h;exact⟨p,by rw[Z9];exact c,d⟩
theorem T6.set {b:List PL}{a:List (List Qm)}(h:T6 b a){p:PL}{f:List Qm}(e:PQ p f):∀(i:Nat),T6 (b.set i p) (a.set i f):=by
 induction h with
 |nil=>intro i;exact .nil
 |@cons x y j k c d g=>
  intro i;cases i with
  |zero=>exact .cons e d
  |succ i=>exact .cons c (g i)
theorem xE {B:Xr}(m:Std B){L lo:PL}{o:List (List Int)}(T:S6 lo o)(M:VE o)(u:o.length<1000000){ls:List PL}{W:List (List Qm)}(sl:Sl L (Xu ls))(z:T6 ls W)(hl:∀f∈W,f.length<100000)(I:W.length<100000)(N:Nat)
  {left r Y:List Qm} {R v:List (List Qm)} (h:ma o PR XL W left R r v Y):
  ∀(O C:PL) (g:List PL),PQ O left->PQ C r->T6 g R->g.length=N->∃n a l,(X0 B fun E _=>rP E lo L ls N n O g C a l)/\T6 a v/\PQ l Y/\a.length=N:=by
 induction h with
 |@done R r=>
  intro O C g j P D x;obtain⟨V,S,j⟩:=j;cases j;exact⟨0,g,C,X0.of fun _ _=>.done S x,D,P,x⟩
 |@rem left t R v r Y F G c3 p hf h ih=>
  intro O C g j P D x;have l1:=F.2;have l2:=G.2;obtain⟨c,b,g1,k⟩:=Uh m T M u j (by omega);simp only[p]at k;obtain⟨rfl,k⟩:=k;have J:=k.Pk;have H:=jN m T M u J sl z hl I;rw[hf]at H;have po:=k.one;obtain⟨r1,g4,p4⟩:=Sk m P po G.1 c3.1 (by omega) (by simp);obtain⟨A,w,p5⟩:=bC m j po F.1 c3.1 (by omega) (by simp);obtain⟨n,a,l,k1,k2,k3,k4⟩:=ih (.Xv A) (.Xv r1) g ⟨_,.Xv,p5⟩ ⟨_,.Xv,p4⟩ D x;obtain⟨V,S,j⟩:=j;obtain⟨t1,t2,t3,t4,rfl⟩:=k.eight;have y:0<V.length:=by rw[j.length];exact jB p
  exact⟨n+1,a,l,(k1.and (g1.Xi.and (H.Xi.and (g4.Xi.and w.Xi)))).mono fun E K ⟨e0,e1,e3,U,e5⟩=>.rem J.1 ⟨e1,e3,U,e5⟩ S y e0,k2,k3,k4⟩
 |@div left t s i f q R v r Y F G c3 c4 c5 c6 c7 c8 c9 Z p hf hi hs hd hq h ih=>
  intro O C g j P D x;have l1:=F.2;have l2:=G.2;have l6:=c6.2;have l7:=c7.2;obtain⟨c,b,g1,k⟩:=Uh m T M u j (by omega);simp only[p]at k;obtain⟨rfl,k⟩:=k;have J:=k.Pk;have H:=jN m T M u J sl z hl I;rw[hf]at H;obtain⟨pf,a4,Q⟩:=z.get hi;obtain⟨pq,a5,a7⟩:=D.get hq;obtain⟨d,b,g4,w⟩:=Uh m T M u Q (by omega);simp only[hs]at w;obtain⟨rfl,w⟩:=w;have a2:=w.Pk;obtain⟨e,g6,X⟩:=bE m k w c3.one c4.one c8 hd;have a3:=X.Pk;obtain⟨q1,g8,p8⟩:=Sk m a7 X.one c6.1 c5.1 (by omega) (by simp);obtain⟨pr,g9,p9⟩:=PX m X c5.one c9 Q G.1 Z (by omega);obtain⟨A,a1,a6⟩:=bC m j ⟨pr,.Xv,p9⟩ F.1 c7.1 (by omega) (by omega);obtain⟨n,a,l,k1,k2,k3,k4⟩:=ih (.Xv A) C (g.set i (.Xv q1)) ⟨_,.Xv,a6⟩ P (D.set ⟨_,.Xv,p8⟩ i) (by rw[ZZ];exact x);obtain⟨V,S,j⟩:=j;obtain⟨t1,t2,t3,t4,rfl⟩:=k.eight;obtain⟨a9,s2,s3,s4,rfl⟩:=w.eight;obtain⟨a8,e2,e3,U,rfl⟩:=X.eight;have y:0<V.length:=by rw[j.length];exact jB p
  exact⟨n+1,a,l,(k1.and (g1.Xi.and (H.Xi.and (g4.Xi.and (g6.Xi.and (g8.Xi.and (g9.Xi.and a1.Xi))))))).mono fun E K ⟨e0,e1,e3,U,e6,e8,e9,a0⟩=>.div J.1 a2.1 a3.1 ⟨e1,e3,U,e6,e8,e9,a0⟩ S y a4 a5 x e0,k2,k3,k4⟩
theorem Fe {E:Xb}{K:Nat}(f:E.mode=md){D L:PL}{H:List PL}(A:Sl L (Xu H)){N n:Nat}{z F j:PL}{i a:List PL}(h:rP E D L H N n z i F a j)(m:Xz):∀(k:Nat) (G:List Xz),n<k->
  ∃b d,Xc E K 0 [1,2,6,7,8] x12_1 k ⟨[(1,.one (.p L)),(2,.one (.p D)),(6,.one (.ptr 0 0 0 0)),(7,.one (.ptr 2 0 0 0)),(8,.one (.p z))],m::qB i::vr N F::G⟩=some (.exit 0,⟨b,m::qB a::vr N j::d⟩)/\Xh b 6=some (.one (.ptr 0 0 0 0))/\Xh b 7=some (.one (.ptr 2 0 0 0)):=by
 induction h with
 |@done z M r l B=>
  intro k G C;obtain⟨k,rfl⟩:∃g,k=g+1:=⟨k-1,by omega⟩;have e:=l.len;apply DX
  ·rw[Xc];simp only[Xp,Xq,reduceIte,Nat.reduceEqDiff,x12_1,e,Zv];rfl
  ·refine⟨?_,?_⟩<;>simp only[Xp,reduceIte,Nat.reduceEqDiff]
 |rem u x l c h y=>
  intro k G C;obtain⟨k,rfl⟩:∃g,k=g+1:=⟨k-1,by omega⟩;obtain⟨q,o⟩:=u9 (K:=K) (k:=k) (n:=N) f u x l c m (qB _) G;obtain⟨b,d,s,t⟩:=y k q (by omega);exact⟨b,d,o.trans s,t⟩
 |div u v w x l c I J B h y=>
  intro k G C;obtain⟨k,rfl⟩:∃g,k=g+1:=⟨k-1,by omega⟩;obtain⟨q,o⟩:=wx (K:=K) (k:=k) f u v w x l c A I J m G;obtain⟨b,d,s,t⟩:=y k q (by omega);rw[B]at o;exact⟨b,d,o.trans s,t⟩
theorem Bo (n:Nat):List.replicate n [DL.p .XJ]=pc (Xu (List.replicate n .XJ)):=by simp[pc,Xu]
theorem T6.zero:∀(n:Nat),T6 (List.replicate n .XJ) (List.replicate n [])
 |0=>.nil
 |n+1=>.cons ⟨[],.nil,.nil⟩ (T6.zero n)
theorem tW {B:Xr}(j:Std B){L r:PL}{o:List (List Int)}(N:S6 r o)(F:VE o)(m:o.length<1000000){u:List PL}{b:List (List Qm)}(s:Sl L (Xu u))(e:T6 u b)(D:∀f∈b,f.length<100000)(k:b.length<100000)(H:Xs B 49 [.one r] (.one (.bool true)))
  {lp:PL} {p v:List Qm} {i:List (List Qm)} (G:PQ lp p) (h:ma o PR XL b p (List.replicate b.length []) [] i v):
  ∃a c,Xs B 12 [.one lp,.one L,.one r] (.agg [.Xv (Xu a),c,.int .i64 (.ofNat 0)])/\T6 a i/\PQ c v/\a.length=b.length:=by
 obtain⟨n,a,c,I,J,M,t⟩:=xE j N F m s e D k b.length h lp .XJ (List.replicate b.length .XJ) G ⟨[],.nil,.nil⟩ (T6.zero _) (by rw[List.length_replicate]);have d:=s.len;have l:=e.length;rw[XH,l]at d;refine⟨a,c,Xs.of (j.X6 _ _ rfl) ((I.and (H.Xi.and (j.Xi.and (X0.ge (n+1))))).mono fun E K ⟨e1,e2,g,Q⟩=> ?_),J,M,t⟩;obtain⟨P,O,y,z,A⟩:=Fe (K:=K) g s e1 ⟨false,0,3,[[.p .XJ,.p .XJ,.p (.int .i64 (.ofNat 0))]],false,39⟩ K [] (by omega);have w:24*b.length<=lim:=by unfold lim;omega
 have x:b.length<=9223372036854775807:=by omega
 have C:=fun h=>Ux 5 h (Xu a)
 have R:=fun h=>zo 5 h (Xu a)
 have q:(pc (Xu a)).take b.length=pc (Xu a):=Zb (by rw[kT];omega);simp(decide:=true)only[Xp,WR,Xq,reduceIte,Nat.reduceAdd,x12,d,g,XW,e2,w,x,Bo,y,z,A,kT,t,Zh,C,q]
end Go.Proofs.YtefpgecinlekpaaGreat
