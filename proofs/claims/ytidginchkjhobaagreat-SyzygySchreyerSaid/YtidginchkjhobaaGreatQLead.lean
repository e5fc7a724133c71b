/- Leading terms, in the program and the reference. -/
import Derived.Test.YtidginchkjhobaaGreatQPol
set_option maxHeartbeats 16000000
set_option maxRecDepth 100000
namespace Go.Num
def V2 (o:M')(b:Qm):Z'->Qm
 |[]=>b
 |t::ts=>V2 o (if WX o t.2 b.2=.ofNat 1 then t else b) ts
theorem Ul:∀(o:M') (m n:P'),WX o m n=.ofNat 1\/WX o m n=.negSucc 0\/WX o m n=.ofNat 0
 |[],m,n=>VX m n
 |r::o,m,n=>by
  simp only[WX];split
  ·exact .inr (.inl rfl)
  ·split
   ·exact .inl rfl
   ·exact Ul o m n
theorem Pm (o:M'):∀(a:Z') (b:Qm),V2 o b a=b\/V2 o b a∈a
 |[],b=>.inl rfl
 |t::a,b=>by
  simp only[V2];split
  ·rcases Pm o a t with h|h
   ·exact .inr (by rw[h];exact Zc ..)
   ·exact .inr (Zb _ h)
  ·rcases Pm o a b with h|h
   ·exact .inl h
   ·exact .inr (Zb _ h)
end Go.Num
namespace Go.Proofs.YtidginchkjhobaaGreat
open Go.Ev Go.Num
def DQ (E:Xa)(f:Nat)(l:PL)(o:M')(ts:Z'):Prop:=∀t∈ts,∀u∈ts,E.pure f [.one l,.agg (mo t.2),.agg (mo u.2)]=some (.one (.int .i64 (WX o t.2 u.2)))
theorem yQ {B:Xs}(d:Std B){l:PL}{o:M'}(h:TR l o)(e:Vt o)(a:o.length<1000000){c:Z'}(b:IT c):XS B fun E _=>DQ E 85 l o c:=
 Ux fun t f=>Ux fun u g=>(lP d h e (b t f) (b u g) a).Xk
theorem yZ {B:Xs}(d:Std B){l:PL}{o:M'}(h:TR l o)(e:Vt o)(a:o.length<1000000){c:Z'}(b:IT c):XS B fun E _=>DQ E 114 l o c:=
 Ux fun t f=>Ux fun u g=>(dB d h e (b t f) (b u g) a).Xk
abbrev pM (c:N'):Xx:=⟨false,0,12,[c.map DL.p],false,75⟩
abbrev zT:Y':=[.p (.bool false),.p .Xq,.p (.bool false),.p .Xq,.p (LA 0),.p (LA 0),.p (LA 0),.p (LA 0),.p (LA 0),.p (LA 0),.p (LA 0),.p (LA 0)]
abbrev Kw:N':=[.bool false,.Xq,.bool false,.Xq,LA 0,LA 0,LA 0,LA 0,LA 0,LA 0,LA 0,LA 0]
theorem uy {E:Xa}{K:Nat}{N M:PL}{o:M'}{f:Z'}(v:E.mode=md){c:I'}(C:Sl N c)(hl:c.length<1000000)(hc:DQ E 85 M o f):∀{rest:I'} {w:Z'},X5 rest w->(∀t∈w,t∈f)->∀(i k:Nat) (l:N') (b:Qm),W0 l b->b∈f->c.drop i=rest->i+rest.length=c.length->rest.length<k->
  ∃a d,Xb E K 0 [0,1,4,6,7] x107_1 k ⟨[(0,.one (.p N)),(1,.one (.p M)),(4,.one (.ptr 0 0 0 0)),(6,.one (.ptr 1 0 0 0)),(7,LB i)],[⟨false,0,12,[zT],false,75⟩,pM l]⟩=some (.exit 0,⟨a,[⟨false,0,12,[zT],false,75⟩,pM d]⟩)/\(Xh a 4=some (.one (.ptr 0 0 0 0))/\Xh a 6=some (.one (.ptr 1 0 0 0)))/\W0 d (V2 o b w):=by
 intro rest w h;induction h with
 |nil=>
  intro _ i k l b A _ Q G R;obtain⟨k,rfl⟩:∃L,k=L+1:=⟨k-1,by omega⟩;have j:¬i<c.length:=by simp at G;omega
  have :∃a,Xb E K 0 [0,1,4,6,7] x107_1 (k+1) ⟨[(0,.one (.p N)),(1,.one (.p M)),(4,.one (.ptr 0 0 0 0)),(6,.one (.ptr 1 0 0 0)),(7,LB i)],[⟨false,0,12,[zT],false,75⟩,pM l]⟩=some (.exit 0,⟨a,[⟨false,0,12,[zT],false,75⟩,pM l]⟩)/\(Xh a 4=some (.one (.ptr 0 0 0 0))/\Xh a 6=some (.one (.ptr 1 0 0 0))):=by
   apply VO
   ·rw[Xb];simp only[Xo,Xr,reduceIte,Nat.reduceEqDiff,x107_1,C.len,j];rfl
   ·simp only[Xo,reduceIte,Nat.reduceEqDiff,and_self]
  obtain⟨a,m,q⟩:=this;exact⟨a,l,m,q,A⟩
 |@cons ch t rest w T h U=>
  intro g i k l b A r Q G R;obtain⟨k,rfl⟩:∃L,k=L+1:=⟨k-1,by omega⟩;simp only[Zi]at G R;have j:i<c.length:=by omega
  obtain⟨gp,O⟩:=Xi Q;have n:=hc t (g t (Zc ..)) b r;have J:=T;have F:=A;obtain⟨x,y,z,u,rfl,-,S⟩:=J;obtain⟨x2,y2,z2,u2,rfl,-,hn⟩:=F;have V:=fun(hh:HF) (kd:IntKind)=>C.idx (h:=hh) (k:=kd) (sz:=12) gp (by simp[XF,S.1])
  have P:Xe .i64 (.ofNat (i+1))=.ofNat (i+1):=wrap_i64 (by omega);have W:=S.1;have X:=hn.1;have Y:(Xw t.2).take 8=Xw t.2:=Zd (by rw[Xc];omega);have Z:(Xw b.2).take 8=Xw b.2:=Zd (by rw[Xc];omega);have dn:(Xw b.2).drop 8=[]:=Zo (by rw[Xc];omega);by_cases B:WX o t.2 b.2=.ofNat 1
  ·obtain⟨a,d,m,q,D⟩:=U (fun s I=>g s (Zb _ I)) (i+1) k _ t T (g t (Zc ..)) O (by omega) (by omega);refine⟨a,d,?_,q,by simp only[V2,if_pos B];exact D⟩;rw[B]at n;simp only[pM,Zt,Wj]at m;rw[Xb];simp only[pM,Xo,Xr,VR,reduceIte,Nat.reduceEqDiff,Nat.reduceLeDiff,Nat.reduceLT,Nat.reduceAdd,x107_1,C.len,j,V,Wj,Xc,XF,W,X,Y,Z,dn,Wb,Wf,v,X4,n,P];exact m
  ·obtain⟨a,d,m,q,D⟩:=U (fun s I=>g s (Zb _ I)) (i+1) k _ b A r O (by omega) (by omega);refine⟨a,d,?_,q,by simp only[V2,if_neg B];exact D⟩;have H:SR (.ofNat 0) (WX o t.2 b.2)=false:=by
    rcases Ul o t.2 b.2 with e|e|e
    ·exact absurd e B
    ·rw[e];rfl
    ·rw[e];rfl
   simp only[pM,Zt,Wj]at m;rw[Xb];simp only[pM,Xo,Xr,VR,reduceIte,Nat.reduceEqDiff,Nat.reduceLeDiff,Nat.reduceAdd,x107_1,C.len,j,V,Wj,Xc,XF,W,X,Y,Z,Wb,Wf,v,X4,n,H,P];exact m
theorem yK {B:Xs}(g:Std B){q e:PL}{o:M'}(Z:TR e o)(T:Vt o)(p:o.length<1000000){t:Qm}{a:Z'}(d:PQ q (t::a))(hl:a.length<100000):∃c,Xu B 107 [.one q,.one e] (.X9 [.agg c,.one (.bool true)])/\W0 c (V2 o t a):=by
 have m:=d.tS;obtain⟨es,r,d⟩:=d;cases d with
 |@cons ch t rest a C h=>
  have A:=h.length;have P:=yQ g Z T p m;have b:∀E K,DQ E 85 e o (t::a)->E.mode=md->rest.length+2<=K->∃c,UX E K x107 [.one q,.one e]=some (.X9 [.agg c,.one (.bool true)])/\W0 c (V2 o t a):=by
   intro E K j l hK;obtain⟨T',f,v,⟨H,I⟩,w⟩:=uy (K:=K) l r (by simp;omega) j h (fun s U=>Zb _ U) 1 K ch t C (Zc ..) rfl (by simp;omega) (by omega);refine⟨f,?_,w⟩;obtain⟨x,y,z,u,rfl,-,R⟩:=C;obtain⟨x2,y2,z2,u2,rfl,-,S⟩:=w;have D:=R.1;have Y:=S.1;have V:=fun(Q:HF) (W:IntKind)=>r.idx (h:=Q) (k:=W) (sz:=12) (i:=0) rfl (by simp[XF,D])
   have tm:(Xw t.2).take 8=Xw t.2:=Zd (by rw[Xc];omega);have tn:(Xw (V2 o t a).2).take 8=Xw (V2 o t a).2:=Zd (by rw[Xc];omega);have dm:(Xw t.2).drop 8=[]:=Zo (by rw[Xc];omega);have dn:(Xw (V2 o t a).2).drop 8=[]:=Zo (by rw[Xc];omega);simp only[pM,Zt,Wj]at v;have n:¬rest.length+1=0:=by omega
   simp only[Xo,Xr,VR,reduceIte,Nat.reduceEqDiff,Nat.reduceLeDiff,Nat.reduceAdd,x107,r.len,n,V,Wj,Xc,D,Y,tm,tn,Wb,v,H,I]
  obtain⟨N,O⟩:=P.and (g.Xk.and (XS.ge (B:=B) (rest.length+2)));obtain⟨J,L,M⟩:=O N N (Ze _) (Ze _);obtain⟨c,F,G⟩:=b _ N J L M;refine⟨c,⟨N,N+1,?_⟩,G⟩;show(match B.X 107 with
   |some xf=>UX (B.E N N) N xf _
   |none=>(B.E N N).pure _ _)=_
  rw[g.Wa _ _ rfl];exact F
theorem uI {E:Xa}{K:Nat}{M:PL}{o:M'}{d:Z'}(v:E.mode=md){all:I'}(hl:all.length<1000000)(hc:DQ E 114 M o d):∀{rest:I'} {w:Z'},X5 rest w->(∀t∈w,t∈d)->∀(i k:Nat) (j:N') (b:Qm) (G:V'),W0 j b->b∈d->all.drop i=rest->i+rest.length=all.length->rest.length<k->
  ∃a c n,Xb E K 0 [1,4,6,17,18,19] x61_1 k ⟨[(1,.one (.p M)),(4,.one (.ptr 0 0 0 0)),(6,.one (.ptr 1 0 0 0)),(17,.one (.p (.Xn all))),(18,LB all.length),(19,LB i)],⟨false,0,12,[zT],false,75⟩::pM j::G⟩=some (.exit 0,⟨a,⟨false,0,12,[zT],false,75⟩::pM c::n⟩)/\(Xh a 4=some (.one (.ptr 0 0 0 0))/\Xh a 6=some (.one (.ptr 1 0 0 0)))/\W0 c (V2 o b w):=by
 intro rest w h;have sl:Sl (.Xn all) all:=.Xn;induction h with
 |nil=>
  intro _ i k j b G A _ P F Q;obtain⟨k,rfl⟩:∃L,k=L+1:=⟨k-1,by omega⟩;have g:¬i<all.length:=by simp at F;omega
  have :∃a,Xb E K 0 [1,4,6,17,18,19] x61_1 (k+1) ⟨[(1,.one (.p M)),(4,.one (.ptr 0 0 0 0)),(6,.one (.ptr 1 0 0 0)),(17,.one (.p (.Xn all))),(18,LB all.length),(19,LB i)],⟨false,0,12,[zT],false,75⟩::pM j::G⟩=some (.exit 0,⟨a,⟨false,0,12,[zT],false,75⟩::pM j::G⟩)/\(Xh a 4=some (.one (.ptr 0 0 0 0))/\Xh a 6=some (.one (.ptr 1 0 0 0))):=by
   apply VO
   ·rw[Xb];simp only[Xo,Xr,reduceIte,Nat.reduceEqDiff,x61_1,g];rfl
   ·simp only[Xo,reduceIte,Nat.reduceEqDiff,and_self]
  obtain⟨a,l,q⟩:=this;exact⟨a,j,G,l,q,A⟩
 |@cons ch t rest w S h T=>
  intro f i k j b G A r P F Q;obtain⟨k,rfl⟩:∃L,k=L+1:=⟨k-1,by omega⟩;simp only[Zi]at F Q;have g:i<all.length:=by omega
  obtain⟨gp,N⟩:=Xi P;have m:=hc t (f t (Zc ..)) b r;have J:=S;have D:=A;obtain⟨x,y,z,u,rfl,-,R⟩:=J;obtain⟨x2,y2,z2,u2,rfl,-,hn⟩:=D;have U:=fun(hh:HF) (kd:IntKind)=>sl.idx (h:=hh) (k:=kd) (sz:=12) gp (by simp[XF,R.1])
  have O:Xe .i64 (.ofNat (i+1))=.ofNat (i+1):=wrap_i64 (by omega);have V:=R.1;have W:=hn.1;have X:(Xw t.2).take 8=Xw t.2:=Zd (by rw[Xc];omega);have Y:(Xw b.2).take 8=Xw b.2:=Zd (by rw[Xc];omega);have Z:(Xw b.2).drop 8=[]:=Zo (by rw[Xc];omega);have w0:=X0 t.2;by_cases B:WX o t.2 b.2=.ofNat 1
  ·obtain⟨a,c,n,l,q,C⟩:=T (fun s I=>f s (Zb _ I)) (i+1) k _ t (G++[⟨false,0,12,[.p (.bool x)::.p y::.p (.bool z)::.p u::Xw t.2],false,75⟩]) S (f t (Zc ..)) N (by omega) (by omega);refine⟨a,c,n,?_,q,by simp only[V2,if_pos B];exact C⟩;rw[B]at m;simp only[pM,Zt,Wj]at l;rw[Xb];simp only[pM,Xo,Xr,VR,reduceIte,Nat.reduceEqDiff,Nat.reduceLeDiff,Nat.reduceLT,Nat.reduceAdd,x61_1,g,U,Wj,Xc,V,W,X,Y,Z,Wb,Wf,v,X4,m,O];exact l
  ·obtain⟨a,c,n,l,q,C⟩:=T (fun s I=>f s (Zb _ I)) (i+1) k _ b (G++[⟨false,0,12,[.p (.bool x)::.p y::.p (.bool z)::.p u::Xw t.2],false,75⟩]) A r N (by omega) (by omega);refine⟨a,c,n,?_,q,by simp only[V2,if_neg B];exact C⟩;have H:SR (.ofNat 0) (WX o t.2 b.2)=false:=by
    rcases Ul o t.2 b.2 with e|e|e
    ·exact absurd e B
    ·rw[e];rfl
    ·rw[e];rfl
   simp only[pM,Zt,Wj]at l;rw[Xb];simp only[pM,Xo,Xr,VR,reduceIte,Nat.reduceEqDiff,Nat.reduceLeDiff,Nat.reduceAdd,x61_1,g,U,Wj,Xc,V,W,X,Y,Wb,Wf,v,X4,m,H,O];exact l
theorem Xu.fE {B:Xs}{f:Nat}{a:List PV}{b:Vl}{p:PV->Prop}(g:B.X f=some b)(h:XS B fun E K=>∃r,UX E K b a=some r/\p r):∃r,Xu B f a r/\p r:=by
 obtain⟨N,e⟩:=h;obtain⟨r,c,d⟩:=e N N (Ze _) (Ze _);refine⟨r,⟨N,N+1,?_⟩,d⟩;show(match B.X f with
  |some b=>UX (B.E N N) N b a
  |none=>(B.E N N).pure f a)=some r
 rw[g];exact c
theorem yW {B:Xs}(v:Std B){M L:PL}{o:M'}(so:TR L o)(ho:Vt o)(H:o.length<1000000){t:Qm}{f:Z'}(m:PQ M (t::f))(hl:f.length<100000):∃c,Xu B 61 [.one M,.one L] (.X9 [.agg c,.one (.bool true)])/\W0 c (V2 o t f):=by
 have F:=m.tS;obtain⟨es,N,m⟩:=m;cases m with
 |@cons ch t rest f R h=>
  have l:=h.length;have Y:=yZ v so ho H F;have q:=Sl.VP N;obtain⟨r,W,c,rfl,X⟩:=Xu.fE (p:=fun r=>∃c,r=.X9 [.agg c,.one (.bool true)]/\W0 c (V2 o t f)) (v.Wa 61 _ rfl) (a:=[.one M,.one L]) ((Y.and (v.Xk.and (XS.ge (rest.length+2)))).mono fun E K ⟨w,D,hK⟩=>by
   obtain⟨T',n,G',O,⟨U,V⟩,P⟩:=uI (K:=K) D (all:=rest) (by omega) w h (fun s hs=>Zb _ hs) 0 K ch t [] R (Zc ..) rfl (by omega) (by omega);refine⟨_,?_,n,rfl,P⟩;have A:∀d∈rest,d.length=12:=by
    intro d Z;obtain⟨i,Q⟩:=ZB.1 Z;have :i<f.length:=by rw[<-l];exact(Zf.1 Q).1
    obtain⟨d',g,I⟩:=h.get i _ (Zg this);rw[Q]at g;obtain rfl:=Option.some.inj g;obtain⟨a,b,c,e,rfl,-,I⟩:=I;simp[XF,I.1]
   obtain⟨x,y,z,u,rfl,-,hm⟩:=R;obtain⟨x2,y2,z2,u2,rfl,-,hn⟩:=P;have T:=hm.1;have n8:=hn.1;have S:=fun(C:HF) (kd:IntKind)=>N.idx (h:=C) (k:=kd) (sz:=12) (i:=0) rfl (by simp[XF,T])
   have tm:(Xw t.2).take 8=Xw t.2:=Zd (by rw[Xc];omega);have tn:(Xw (V2 o t f).2).take 8=Xw (V2 o t f).2:=Zd (by rw[Xc];omega);have dm:(Xw t.2).drop 8=[]:=Zo (by rw[Xc];omega);have dn:(Xw (V2 o t f).2).drop 8=[]:=Zo (by rw[Xc];omega);simp only[pM,Zt,Wj]at O;have G:¬rest.length+1=0:=by omega
   have J:=fun C=>Uf (c:=.bool x::y::.bool z::u::mo t.2) A C
   have j:=N.len;rw[q]at S j⊢;simp only[Xo,Xr,VR,reduceIte,Nat.reduceEqDiff,Nat.reduceLeDiff,Nat.reduceAdd,x61,j,Sl.Xn.len,J,G,S,Wj,Xc,T,n8,tm,tn,Wb,O,U,V])
  exact⟨c,W,X⟩
end Go.Proofs.YtidginchkjhobaaGreat
namespace Go.Num
def XR (o:M'):Z'->Option Qm
 |[]=>none
 |t::ts=>some (V2 o t ts)
def WE (o:M')(m:P'):S'->Nat->Option Nat
 |[],_=>none
 |f::fs,i=>match XR o f with
  |some s=>if Wn s.2 m=true then some i else WE o m fs (i+1)
  |none=>WE o m fs (i+1)
def XZ (t s:Qm):Qm:=(t.1 / s.1,XQ t.2 s.2)
end Go.Num
namespace Go.Proofs.YtidginchkjhobaaGreat
open Go.Ev Go.Num
theorem yL {B:Xs}(d:Std B){c e:PL}(b:PQ c []):Xu B 107 [.one c,.one e] (.X9 [.agg Kw,.one (.bool false)]):=by
 obtain⟨g,f,b⟩:=b;cases b;have a:=f.len;refine Xu.of (d.Wa _ _ rfl) (XS.of fun K n=> ?_);simp only[Xo,Xr,reduceIte,Nat.reduceEqDiff,Nat.reduceLeDiff,x107,a]
theorem VU {B:Xs}(e:Std B){h g:PL}{o:M'}(m:TR g o)(l:Vt o)(d:o.length<1000000){a:Z'}(f:PQ h a)(k:a.length<100000):∃c b,Xu B 107 [.one h,.one g] (.X9 [.agg c,.one (.bool b)])/\match XR o a with |some s=>b=true/\W0 c s|none=>b=false/\c=Kw:=by
 cases a with
 |nil=>exact⟨Kw,false,yL e f,rfl,rfl⟩
 |cons t a=>
  obtain⟨c,i,j⟩:=yK e m l d f (by simp at k;omega);exact⟨c,true,i,rfl,j⟩
theorem du {B:Xs}(a:Std B){c d:N'}{t s:Qm}(l:W0 c t)(m:W0 d s)(o:Sq t.1)(n:Sq s.1)(h0:s.1≠0)(g:Wn s.2 t.2=true):∃e,Xu B 113 [.agg c,.agg d] (.agg e)/\W0 e (XZ t s):=by
 obtain⟨x,y,z,u,rfl,v,b⟩:=l;obtain⟨x2,M,N,L,rfl,w,f⟩:=m;obtain⟨e,j,i⟩:=Hk a v w o n h0;have k:=OA a b f g;obtain⟨G,H,I,J,rfl⟩:=i.len;have q:=b.1;have r:=f.1;have p:=(UG b f).1;have C:(Xw t.2).take 8=Xw t.2:=Zd (by rw[Xc];omega);have D:(Xw s.2).take 8=Xw s.2:=Zd (by rw[Xc];omega);have A:(Xw (XQ t.2 s.2)).take 8=Xw (XQ t.2 s.2):=Zd (by rw[Xc];omega);have F:(Xw (XQ t.2 s.2)).drop 8=[]:=Zo (by rw[Xc];omega);refine⟨_,Xu.of (a.Wa _ _ rfl) ((j.Xk.and (k.Xk.and a.Xk)).mono fun E K ⟨e1,e2,h⟩=> ?_),W0.mk i (UG b f)⟩;simp(decide:=true)only[Xo,Xr,reduceIte,Nat.reduceAdd,x113,Wj,Xc,q,r,p,C,D,A,Wb,Wf,h,X4,e1,e2]
theorem Oy {B:Xs}(d:Std B){c:N'}{t:Qm}(i:W0 c t)(o:Sq t.1)(h0:t.1≠0){l:PL}{b:Z'}(m:PQ l b)(n:Sz b)(k:∀u∈b,XD (Xg t.2 u.2))(j:b.length<1000000):
  ∃a,Xu B 112 [.agg c,.one l] (.one (.Xn a))/\X5 a (XG t.1 t.2 b):=by
 obtain⟨x,y,z,u,rfl,q,f⟩:=i;obtain⟨a,g,h⟩:=bk d q o h0 f m n k j;have p:=f.1;have r:(Xw t.2).take 8=Xw t.2:=Zd (by rw[Xc];omega);refine⟨a,Xu.of (d.Wa _ _ rfl) ((g.Xk.and d.Xk).mono fun E K ⟨e1,e⟩=> ?_),h⟩;simp(decide:=true)only[Xo,Xr,reduceIte,Nat.reduceAdd,x112,Wj,Xc,p,r,Wb,Wf,e,X4,e1]
theorem HX {a b:Type}{p q:a->b->Prop}{x:a}{y:b}(h:p x y)(k:q x y):∃x y,p x y/\q x y:=⟨x,y,h,k⟩
abbrev VS (ls:N')(fs:S'):Prop:=XB PQ ls fs
def Xf (ls:N'):I':=ls.map fun p=>[p]
theorem XY {a:N'}{i:Nat}{p:PL}(h:a[i]? =some p):(Xf a)[i]? =some [p]:=by simp[Xf,h]
theorem Xt (a:N'):(Xf a).length=a.length:=by simp[Xf]
inductive P9 (E:Xa)(lo:PL)(m:P'):N'->Nat->Option Nat->Prop
 |nil {i:Nat}:P9 E lo m [] i none
 |skip {p x y z u:PL} {k:P'} {ps:N'} {i:Nat} {r:Option Nat} (hk:k.length=8) (h1:E.pure 107 [.one p,.one lo]=some (.X9 [.agg (x::y::z::u::mo k),.one (.bool false)])) (h:P9 E lo m ps (i+1) r):P9 E lo m (p::ps) i r
 |no {p x y z u:PL} {k:P'} {ps:N'} {i:Nat} {r:Option Nat} (hk:k.length=8) (h1:E.pure 107 [.one p,.one lo]=some (.X9 [.agg (x::y::z::u::mo k),.one (.bool true)])) (h2:E.pure 133 [.agg (mo k),.agg (mo m)]=some (.one (.bool false))) (h:P9 E lo m ps (i+1) r):P9 E lo m (p::ps) i r
 |yes {p x y z u:PL} {k:P'} {ps:N'} {i:Nat} (hk:k.length=8) (h1:E.pure 107 [.one p,.one lo]=some (.X9 [.agg (x::y::z::u::mo k),.one (.bool true)])) (h2:E.pure 133 [.agg (mo k),.agg (mo m)]=some (.one (.bool true))):P9 E lo m (p::ps) i (some i)
theorem jC {B:Xs}(q:Std B){t:PL}{o:M'}(F:TR t o)(A:Vt o)(e:o.length<1000000){m:P'}(w:XD m):∀{D:N'} {l:S'},VS D l->(∀f∈l,f.length<100000)->∀i,XS B fun E _=>P9 E t m D i (WE o m l i)
 |_,_,.nil,_,i=>XS.of fun _ _=>.nil
 |_,_,.cons (x:=p) (y:=f) hp h,hl,i=>by
  have C:=jC q F A e w h (fun g H=>hl g (Zb _ H)) (i+1);obtain⟨c,b,n,a⟩:=VU q F A e hp (hl f (Zc ..));unfold WE;cases d:XR o f with
  |none=>
   simp only[d]at a;obtain⟨rfl,rfl⟩:=a;refine(C.and n.Xk).mono fun E K ⟨e1,e2⟩=> ?_
   exact .skip (k:=[0,0,0,0,0,0,0,0]) rfl e2 e1
  |some s=>
   simp only[d]at a;obtain⟨rfl,a⟩:=a;obtain⟨x,y,z,u,rfl,-,r⟩:=a;have j:=PM q r.1 w.1;show XS B fun E _=>P9 E t m (p::_) i (if Wn s.2 m=true then some i else WE o m _ (i+1))
   cases v:Wn s.2 m with
   |true=>
    rw[v]at j;refine(n.Xk.and j.Xk).mono fun E K ⟨e1,e2⟩=> ?_
    rw[if_pos rfl];exact .yes r.1 e1 e2
   |false=>
    rw[v]at j;refine(C.and (n.Xk.and j.Xk)).mono fun E K ⟨G,e1,e2⟩=> ?_
    rw[if_neg (by simp)];exact .no r.1 e1 e2 G
theorem CS {E:Xa}{K:Nat}{L R:PL}{m:P'}(g:E.mode=md)(Q:m.length=8){b:N'}(n:Sl L (Xf b))(U:b.length<1000000):∀{rest:N'} {i:Nat} {r:Option Nat},P9 E R m rest i r->∀(k:Nat) (G:V'),b.drop i=rest->i+rest.length=b.length->rest.length<k->
  ∃o t,Xb E K 0 [0,1,5,7] x148_1 k ⟨[(0,.one (.p L)),(1,.one (.p R)),(5,.one (.ptr 0 0 0 0)),(7,LB i)],⟨false,0,8,[Xw m],false,73⟩::G⟩=some (match r with |some _=>.ret|none=>.exit 0,⟨o,t⟩)/\match r with |some j=>Xh o 6=some (LB j)|none=>True:=by
 intro rest i r h;induction h with
 |@nil i=>
  intro k G q f s;obtain⟨k,rfl⟩:∃l,k=l+1:=⟨k-1,by omega⟩;have d:¬i<b.length:=by simp at f;omega
  have a:=n.len;rw[Xt]at a;apply HX
  ·rw[Xb];simp only[Xo,Xr,reduceIte,Nat.reduceEqDiff,x148_1,a,d];rfl
  ·trivial
 |@skip p x y z u c S i r e w h N=>
  intro k G q f s;obtain⟨k,rfl⟩:∃l,k=l+1:=⟨k-1,by omega⟩;simp only[Zi]at f s;have d:i<b.length:=by omega
  have a:=n.len;rw[Xt]at a;obtain⟨v,D⟩:=Xi q;have B:=fun(A:HF) (C:IntKind)=>n.idx (h:=A) (k:=C) (sz:=1) (XY v) rfl
  have H:Xe .i64 (.ofNat (i+1))=.ofNat (i+1):=wrap_i64 (by omega);have F:(Xw c).take 8=Xw c:=Zd (by rw[Xc];omega);have P:(Xw c).drop 8=[]:=Zo (by rw[Xc];omega);have T:=X0 c;obtain⟨o,t,I,J⟩:=N k (G++[⟨false,0,12,[.p x::.p y::.p z::.p u::Xw c],false,75⟩]) D (by omega) (by omega);refine⟨o,t,?_,J⟩;rw[Xb];simp only[Xo,Xr,VR,reduceIte,Nat.reduceEqDiff,Nat.reduceLeDiff,Nat.reduceAdd,x148_1,a,d,B,Wj,Xc,e,g,X4,w,H];exact I
 |@no p x y z u c S i r e w M h N=>
  intro k G q f s;obtain⟨k,rfl⟩:∃l,k=l+1:=⟨k-1,by omega⟩;simp only[Zi]at f s;have d:i<b.length:=by omega
  have a:=n.len;rw[Xt]at a;obtain⟨v,D⟩:=Xi q;have B:=fun(A:HF) (C:IntKind)=>n.idx (h:=A) (k:=C) (sz:=1) (XY v) rfl
  have H:Xe .i64 (.ofNat (i+1))=.ofNat (i+1):=wrap_i64 (by omega);have F:(Xw c).take 8=Xw c:=Zd (by rw[Xc];omega);have P:(Xw c).drop 8=[]:=Zo (by rw[Xc];omega);have O:(Xw m).take 8=Xw m:=Zd (by rw[Xc];omega);have T:=X0 c;obtain⟨o,t,I,J⟩:=N k (G++[⟨false,0,12,[.p x::.p y::.p z::.p u::Xw c],false,75⟩]) D (by omega) (by omega);refine⟨o,t,?_,J⟩;rw[Xb];simp only[Xo,Xr,VR,reduceIte,Nat.reduceEqDiff,Nat.reduceLeDiff,Nat.reduceAdd,x148_1,a,d,B,Wj,Xc,e,Q,F,O,Wb,Wf,g,X4,w,M,H];exact I
 |@yes p x y z u c S i e w M=>
  intro k G q f s;obtain⟨k,rfl⟩:∃l,k=l+1:=⟨k-1,by omega⟩;simp only[Zi]at f s;have d:i<b.length:=by omega
  have a:=n.len;rw[Xt]at a;obtain⟨v,D⟩:=Xi q;have B:=fun(A:HF) (C:IntKind)=>n.idx (h:=A) (k:=C) (sz:=1) (XY v) rfl
  have F:(Xw c).take 8=Xw c:=Zd (by rw[Xc];omega);have P:(Xw c).drop 8=[]:=Zo (by rw[Xc];omega);have O:(Xw m).take 8=Xw m:=Zd (by rw[Xc];omega);have T:=X0 c;apply HX
  ·rw[Xb];simp only[Xo,Xr,VR,reduceIte,Nat.reduceEqDiff,Nat.reduceLeDiff,Nat.reduceAdd,x148_1,a,d,B,Wj,Xc,e,Q,F,O,Wb,Wf,g,X4,w,M];rfl
  ·simp only[Xo,reduceIte,Nat.reduceEqDiff]
def vx:Option Nat->Int
 |some j=>.ofNat j
 |none=>.negSucc 0
theorem mO {B:Xs}(d:Std B){L p:PL}{o:M'}(v:TR p o)(t:Vt o)(i:o.length<1000000){m:P'}(e:XD m){k:N'}{a:S'}(u:Sl L (Xf k))(h:VS k a)(s:∀f∈a,f.length<100000)(r:a.length<100000):Xu B 148 [.one L,.one p,.agg (mo m)] (.one (.int .i64 (vx (WE o m a 0)))):=by
 have l:=h.length;refine Xu.of (d.Wa _ _ rfl) (((jC d v t i e h s 0).and (d.Xk.and (XS.ge (k.length+1)))).mono fun E K ⟨e1,g,y⟩=> ?_);obtain⟨x,w,b,c⟩:=CS (K:=K) g e.1 u (by omega) e1 K [] rfl (by omega) (by omega);have q:=e.1;cases n:WE o m a 0 with
 |none=>
  simp only[n]at b c;simp only[Xo,Xr,reduceIte,Nat.reduceEqDiff,Nat.reduceLeDiff,Nat.reduceAdd,x148,Wj,Xc,q,b,vx]
 |some j=>
  simp only[n]at b c;simp only[Xo,Xr,reduceIte,Nat.reduceEqDiff,Nat.reduceLeDiff,Nat.reduceAdd,x148,Wj,Xc,q,b,c,vx]
end Go.Proofs.YtidginchkjhobaaGreat
namespace Go.Num
inductive eA (o:M')(sz:Z'->Prop)(ok:P'->Prop)(fs:S'):Z'->S'->Z'->S'->Z'->Prop
 |done {qs:S'} {r:Z'}:eA o sz ok fs [] qs r qs r
 |rem {left:Z'} {t:Qm} {qs qs':S'} {r r':Z'} (c1:sz left) (c2:sz r) (c3:sz [t]) (hl:XR o left=some t) (hf:WE o t.2 fs 0=none)
   (h:eA o sz ok fs (Wh left (Wu [t])) qs (Wh r [t]) qs' r'):eA o sz ok fs left qs r qs' r'
 |div {left:Z'} {t s:Qm} {i:Nat} {f q:Z'} {qs qs':S'} {r r':Z'} (c1:sz left) (c2:sz f) (c3:sz [t]) (c4:sz [s]) (c5:sz [XZ t s]) (c6:sz q) (c7:sz (XG (XZ t s).1 (XZ t s).2 f)) (c8:s.1≠0) (c9:(XZ t s).1≠0) (c10:∀u∈f,ok (Xg (XZ t s).2 u.2))
   (hl:XR o left=some t) (hf:WE o t.2 fs 0=some i) (hi:fs[i]? =some f) (hs:XR o f=some s) (hd:Wn s.2 t.2=true) (hq:qs[i]? =some q)
   (h:eA o sz ok fs (Wh left (Wu (XG (XZ t s).1 (XZ t s).2 f))) (qs.set i (Wh q [XZ t s])) r qs' r'):eA o sz ok fs left qs r qs' r'
end Go.Num
namespace Go.Proofs.YtidginchkjhobaaGreat
open Go.Ev Go.Num
def QO (ts:Z'):Prop:=Sz ts/\ts.length<50000
theorem QO.one {t:Qm}(h:QO [t]):Sq t.1:=h.1 t (Zc ..)
structure JW (E:Xa)(lo L lleft lr:PL)(t1 t2 t3 t4:PL)(m:P')(lf' r':I'):Prop where
 lead:E.pure 107 [.one lleft,.one lo]=some (.X9 [.agg (t1::t2::t3::t4::mo m),.one (.bool true)])
 first :E.pure 148 [.one L,.one lo,.agg (mo m)]=some (.one (.int .i64 (.negSucc 0)))
 add:E.pure 10 [.one lr,.one (.Xn [t1::t2::t3::t4::mo m])]=some (.one (.Xn r'))
 sub:E.pure 12 [.one lleft,.one (.Xn [t1::t2::t3::t4::mo m])]=some (.one (.Xn lf'))
abbrev zd (n:Nat)(lr:PL):Xx:=⟨false,0,3,[[.own 1 0 0 n,.p lr,.p (LA 0)]],false,153⟩
abbrev qB (lqs:N'):Xx:=⟨false,0,1,pc (Xf lqs),false,33⟩
theorem yP {E:Xa}{K k:Nat}{g L a l x y z A:PL}{m:P'}{c o:I'}(f:E.mode=md)(v:m.length=8)(d:JW E g L a l x y z A m c o){n:Nat}{j:I'}(w:Sl a j)(e:0<j.length)(h i:Xx)(G:V'):
  ∃q,Xb E K 0 [1,2,6,7,8] x109_1 (k+1) ⟨[(1,.one (.p L)),(2,.one (.p g)),(6,.one (.ptr 0 0 0 0)),(7,.one (.ptr 2 0 0 0)),(8,.one (.p a))],h::i::zd n l::G⟩=Xb E K 0 [1,2,6,7,8] x109_1 k ⟨[(1,.one (.p L)),(2,.one (.p g)),(6,.one (.ptr 0 0 0 0)),(7,.one (.ptr 2 0 0 0)),(8,.one (.p (.Xn c)))],h::i::zd n (.Xn o)::q⟩:=by
 have b:=w.len;have B:(Xw m).take 8=Xw m:=Zd (by rw[Xc];omega);have C:(Xw m).drop 8=[]:=Zo (by rw[Xc];omega);have D:=X0 m;have r:=d.lead;have s:=d.first;have t:=d.add;have u:=d.sub;apply Exists.intro;rw[Xb];simp(decide:=true)only[Xo,Xr,VR,Vx,reduceIte,Nat.reduceLeDiff,Nat.reduceAdd,x109_1,b,e,Wj,Xc,v,B,Wb,Wf,f,X4,PL.scalar,UC,TQ,Zq,r,s,t,u];rfl
theorem wJ {a:N'}{i:Nat}{p:PL}(h:a[i]? =some p):(pc (Xf a))[i]? =some [.p p]:=by simp[pc,Xf,h]
theorem wI (a:N')(i:Nat)(p:PL):(pc (Xf a)).set i [.p p]=pc (Xf (a.set i p)):=by simp[pc,Xf,List.map_set]
theorem oi (a:N'):(pc (Xf a)).length=a.length:=by simp[pc,Xf]
structure J2 (E:Xa)(lo L lleft:PL)(t1 t2 t3 t4:PL)(m:P')(i:Nat)(pf:PL)(s1 s2 s3 s4:PL)(m2:P')(e1 e2 e3 e4:PL)(m3:P')(pq:PL)(q' pr lf':I'):Prop where
 lead:E.pure 107 [.one lleft,.one lo]=some (.X9 [.agg (t1::t2::t3::t4::mo m),.one (.bool true)])
 first :E.pure 148 [.one L,.one lo,.agg (mo m)]=some (.one (LA i))
 JC:E.pure 107 [.one pf,.one lo]=some (.X9 [.agg (s1::s2::s3::s4::mo m2),.one (.bool true)])
 Jw:E.pure 113 [.agg (t1::t2::t3::t4::mo m),.agg (s1::s2::s3::s4::mo m2)]=some (.agg (e1::e2::e3::e4::mo m3))
 add:E.pure 10 [.one pq,.one (.Xn [e1::e2::e3::e4::mo m3])]=some (.one (.Xn q'))
 times:E.pure 112 [.agg (e1::e2::e3::e4::mo m3),.one pf]=some (.one (.Xn pr))
 sub:E.pure 12 [.one lleft,.one (.Xn pr)]=some (.one (.Xn lf'))
theorem Al {E:Xa}{K k:Nat}{r L a y t1 t2 t3 t4 Z s2 s3 s4 e1 e2 I J A B:PL}{m m2 d:P'}{i:Nat}{C Y f:I'}(q:E.mode=md)(V:m.length=8)(n:m2.length=8)(o:d.length=8)(c:J2 E r L a t1 t2 t3 t4 m i A Z s2 s3 s4 m2 e1 e2 I J d B C Y f){w:I'}(sl:Sl a w)(g:0<w.length)
  {z:N'} (s:Sl L (Xf z)) (T:z[i]? =some A) {b:N'} (x:b[i]? =some B) (v:Xx) (G:V'):
  ∃D,Xb E K 0 [1,2,6,7,8] x109_1 (k+1) ⟨[(1,.one (.p L)),(2,.one (.p r)),(6,.one (.ptr 0 0 0 0)),(7,.one (.ptr 2 0 0 0)),(8,.one (.p a))],v::qB b::zd b.length y::G⟩=Xb E K 0 [1,2,6,7,8] x109_1 k ⟨[(1,.one (.p L)),(2,.one (.p r)),(6,.one (.ptr 0 0 0 0)),(7,.one (.ptr 2 0 0 0)),(8,.one (.p (.Xn f)))],v::qB (b.set i (.Xn C))::zd b.length y::D⟩:=by
 have e:=sl.len;have tm:(Xw m).take 8=Xw m:=Zd (by rw[Xc];omega);have dk:(Xw m).drop 8=[]:=Zo (by rw[Xc];omega);have w0:=X0 m;have t:(Xw m2).take 8=Xw m2:=Zd (by rw[Xc];omega);have F:(Xw m2).drop 8=[]:=Zo (by rw[Xc];omega);have u:(Xw d).take 8=Xw d:=Zd (by rw[Xc];omega);have H:(Xw d).drop 8=[]:=Zo (by rw[Xc];omega);have j:=wJ x;have l:i<b.length:=(Zf.mp x).1;have w2:=X0 m2;have w3:=X0 d;have M:=c.lead;have N:=c.first;have O:=c.JC;have P:=c.Jw;have Q:=c.add;have R:=c.times;have S:=c.sub;have W:=fun(U:HF) (X:IntKind)=>s.idx (h:=U) (k:=X) (sz:=1) (XY T) rfl
 apply Exists.intro;rw[Xb];simp(decide:=true)only[Xo,Xr,VR,Vx,reduceIte,Nat.reduceEqDiff,Nat.reduceLeDiff,Nat.reduceAdd,x109_1,e,g,Wj,Xc,V,n,o,tm,Wb,Wf,q,X4,PL.scalar,UC,TQ,Zq,M,N,O,P,Q,R,S,W,Zm,t,u,j,l,wI,Nat.not_lt_zero];rfl
inductive vN (E:Xa)(lo L:PL)(ls:N')(N:Nat):Nat->PL->N'->PL->N'->PL->Prop
 |done {lf:PL} {qs:N'} {r:PL} (sl:Sl lf []) (hN:qs.length=N):vN E lo L ls N 0 lf qs r qs r
 |rem {n:Nat} {lf r:PL} {qs qs':N'} {r':PL} {t1 t2 t3 t4:PL} {m:P'} {lf1 r1 es:I'} (hm:m.length=8) (hr:JW E lo L lf r t1 t2 t3 t4 m lf1 r1) (sl:Sl lf es) (hes:0<es.length)
   (h:vN E lo L ls N n (.Xn lf1) qs (.Xn r1) qs' r'):vN E lo L ls N (n+1) lf qs r qs' r'
 |div {n i:Nat} {lf r pf pq:PL} {qs qs':N'} {r':PL} {t1 t2 t3 t4 s1 s2 s3 s4 e1 e2 e3 e4:PL} {m m2 m3:P'} {q1 pr lf1 es:I'} (hm:m.length=8) (hm2:m2.length=8) (hm3:m3.length=8)
   (hr:J2 E lo L lf t1 t2 t3 t4 m i pf s1 s2 s3 s4 m2 e1 e2 e3 e4 m3 pq q1 pr lf1) (sl:Sl lf es) (hes:0<es.length) (hL:ls[i]? =some pf) (hq:qs[i]? =some pq) (hN:qs.length=N)
   (h:vN E lo L ls N n (.Xn lf1) (qs.set i (.Xn q1)) r qs' r'):vN E lo L ls N (n+1) lf qs r qs' r'
theorem W0.eight {c:N'}{t:Qm}(h:W0 c t):∃f g i j,c=f::g::i::j::mo t.2:=by
 obtain⟨a,b,d,e,rfl,-,-⟩:=h;exact⟨_,_,_,_,rfl⟩
theorem W0.OK {c:N'}{t:Qm}(h:W0 c t):XD t.2:=by
 obtain⟨a,b,d,e,-,-,h⟩:=h;exact h
theorem W0.one {c:N'}{t:Qm}(h:W0 c t):PQ (.Xn [c]) [t]:=⟨[c],.Xn,.cons h .nil⟩
theorem my {o:M'}{a:Z'}{t:Qm}(h:XR o a=some t):0<a.length:=by
 cases a with
 |nil=>cases h
 |cons _ _=>simp
theorem VS.get {b:N'}{a:S'}(h:VS b a):∀{i:Nat} {f:Z'},a[i]? =some f->∃p,b[i]? =some p/\PQ p f:=by
 induction h with
 |nil=>intro i f h;cases h
 |@cons x y k l e j g=>
  intro i f h;cases i with
  |zero=>rw[Ym]at h;cases h;exact⟨x,rfl,e⟩
  |succ i=>rw[Z2]at h;obtain⟨p,c,d⟩:=g h;exact⟨p,by rw[Z2];exact c,d⟩
theorem VS.set {b:N'}{a:S'}(h:VS b a){p:PL}{f:Z'}(e:PQ p f):∀(i:Nat),VS (b.set i p) (a.set i f):=by
 induction h with
 |nil=>intro i;exact .nil
 |@cons x y j k c d g=>
  intro i;cases i with
  |zero=>exact .cons e d
  |succ i=>exact .cons c (g i)
theorem Bk {B:Xs}(m:Std B){L lo:PL}{o:M'}(T:TR lo o)(M:Vt o)(u:o.length<1000000){ls:N'}{X:S'}(sl:Sl L (Xf ls))(z:VS ls X)(hl:∀f∈X,f.length<100000)(I:X.length<100000)(N:Nat)
  {left r Z:Z'} {R v:S'} (h:eA o QO XD X left R r v Z):
  ∀(O C:PL) (g:N'),PQ O left->PQ C r->VS g R->g.length=N->∃n a l,(XS B fun E _=>vN E lo L ls N n O g C a l)/\VS a v/\PQ l Z/\a.length=N:=by
 induction h with
 |@done R r=>
  intro O C g j P D x;obtain⟨W,S,j⟩:=j;cases j;exact⟨0,g,C,XS.of fun _ _=>.done S x,D,P,x⟩
 |@rem left t R v r Z F G c3 p hf h ih=>
  intro O C g j P D x;have l1:=F.2;have l2:=G.2;obtain⟨c,b,g1,k⟩:=VU m T M u j (by omega);simp only[p]at k;obtain⟨rfl,k⟩:=k;have J:=k.OK;have H:=mO m T M u J sl z hl I;rw[hf]at H;have po:=k.one;obtain⟨r1,g4,p4⟩:=SY m P po G.1 c3.1 (by omega) (by simp);obtain⟨A,w,p5⟩:=SX m j po F.1 c3.1 (by omega) (by simp);obtain⟨n,a,l,k1,k2,k3,k4⟩:=ih (.Xn A) (.Xn r1) g ⟨_,.Xn,p5⟩ ⟨_,.Xn,p4⟩ D x;obtain⟨W,S,j⟩:=j;obtain⟨t1,t2,t3,t4,rfl⟩:=k.eight;have y:0<W.length:=by rw[j.length];exact my p
  exact⟨n+1,a,l,(k1.and (g1.Xk.and (H.Xk.and (g4.Xk.and w.Xk)))).mono fun E K ⟨e0,e1,U,V,e5⟩=>.rem J.1 ⟨e1,U,V,e5⟩ S y e0,k2,k3,k4⟩
 |@div left t s i f q R v r Z F G c3 c4 c5 c6 c7 c8 c9 c10 p hf hi hs hd hq h ih=>
  intro O C g j P D x;have l1:=F.2;have l2:=G.2;have l6:=c6.2;have l7:=c7.2;obtain⟨c,b,g1,k⟩:=VU m T M u j (by omega);simp only[p]at k;obtain⟨rfl,k⟩:=k;have J:=k.OK;have H:=mO m T M u J sl z hl I;rw[hf]at H;obtain⟨pf,a4,Q⟩:=z.get hi;obtain⟨pq,a5,a7⟩:=D.get hq;obtain⟨d,b,g4,w⟩:=VU m T M u Q (by omega);simp only[hs]at w;obtain⟨rfl,w⟩:=w;have a2:=w.OK;obtain⟨e,g6,Y⟩:=du m k w c3.one c4.one c8 hd;have a3:=Y.OK;obtain⟨q1,g8,p8⟩:=SY m a7 Y.one c6.1 c5.1 (by omega) (by simp);obtain⟨pr,g9,p9⟩:=Oy m Y c5.one c9 Q G.1 c10 (by omega);obtain⟨A,a1,a6⟩:=SX m j ⟨pr,.Xn,p9⟩ F.1 c7.1 (by omega) (by omega);obtain⟨n,a,l,k1,k2,k3,k4⟩:=ih (.Xn A) C (g.set i (.Xn q1)) ⟨_,.Xn,a6⟩ P (D.set ⟨_,.Xn,p8⟩ i) (by rw[ZL];exact x);obtain⟨W,S,j⟩:=j;obtain⟨t1,t2,t3,t4,rfl⟩:=k.eight;obtain⟨a9,s2,s3,s4,rfl⟩:=w.eight;obtain⟨a8,e2,U,V,rfl⟩:=Y.eight;have y:0<W.length:=by rw[j.length];exact my p
  exact⟨n+1,a,l,(k1.and (g1.Xk.and (H.Xk.and (g4.Xk.and (g6.Xk.and (g8.Xk.and (g9.Xk.and a1.Xk))))))).mono fun E K ⟨e0,e1,U,V,e6,e8,e9,a0⟩=>.div J.1 a2.1 a3.1 ⟨e1,U,V,e6,e8,e9,a0⟩ S y a4 a5 x e0,k2,k3,k4⟩
theorem JB {E:Xa}{K:Nat}(f:E.mode=md){D L:PL}{H:N'}(A:Sl L (Xf H)){N n:Nat}{z F j:PL}{i a:N'}(h:vN E D L H N n z i F a j)(m:Xx):∀(k:Nat) (G:V'),n<k->
  ∃b d,Xb E K 0 [1,2,6,7,8] x109_1 k ⟨[(1,.one (.p L)),(2,.one (.p D)),(6,.one (.ptr 0 0 0 0)),(7,.one (.ptr 2 0 0 0)),(8,.one (.p z))],m::qB i::zd N F::G⟩=some (.exit 0,⟨b,m::qB a::zd N j::d⟩)/\Xh b 6=some (.one (.ptr 0 0 0 0))/\Xh b 7=some (.one (.ptr 2 0 0 0)):=by
 induction h with
 |@done z M r l B=>
  intro k G C;obtain⟨k,rfl⟩:∃g,k=g+1:=⟨k-1,by omega⟩;have e:=l.len;apply HX
  ·rw[Xb];simp only[Xo,Xr,reduceIte,Nat.reduceEqDiff,x109_1,e,Zv];rfl
  ·refine⟨?_,?_⟩<;>simp only[Xo,reduceIte,Nat.reduceEqDiff]
 |rem u x l c h y=>
  intro k G C;obtain⟨k,rfl⟩:∃g,k=g+1:=⟨k-1,by omega⟩;obtain⟨q,o⟩:=yP (K:=K) (k:=k) (n:=N) f u x l c m (qB _) G;obtain⟨b,d,s,t⟩:=y k q (by omega);exact⟨b,d,o.trans s,t⟩
 |div u v w x l c I J B h y=>
  intro k G C;obtain⟨k,rfl⟩:∃g,k=g+1:=⟨k-1,by omega⟩;obtain⟨q,o⟩:=Al (K:=K) (k:=k) f u v w x l c A I J m G;obtain⟨b,d,s,t⟩:=y k q (by omega);rw[B]at o;exact⟨b,d,o.trans s,t⟩
theorem EK (n:Nat):List.replicate n [DL.p .Xq]=pc (Xf (List.replicate n .Xq)):=by simp[pc,Xf]
theorem VS.zero:∀(n:Nat),VS (List.replicate n .Xq) (List.replicate n [])
 |0=>.nil
 |n+1=>.cons ⟨[],.nil,.nil⟩ (VS.zero n)
theorem xL {B:Xs}(j:Std B){L r:PL}{o:M'}(N:TR r o)(F:Vt o)(m:o.length<1000000){u:N'}{b:S'}(s:Sl L (Xf u))(e:VS u b)(D:∀f∈b,f.length<100000)(k:b.length<100000)(H:Xu B 22 [.one r] (.one (.bool true)))
  {lp:PL} {p v:Z'} {i:S'} (G:PQ lp p) (h:eA o QO XD b p (List.replicate b.length []) [] i v):
  ∃a c,Xu B 109 [.one lp,.one L,.one r] (.agg [.Xn (Xf a),c,LA 0])/\VS a i/\PQ c v/\a.length=b.length:=by
 obtain⟨n,a,c,I,J,M,t⟩:=Bk j N F m s e D k b.length h lp .Xq (List.replicate b.length .Xq) G ⟨[],.nil,.nil⟩ (VS.zero _) (by rw[YO]);have d:=s.len;have l:=e.length;rw[Xt,l]at d;refine⟨a,c,Xu.of (j.Wa _ _ rfl) ((I.and (H.Xk.and (j.Xk.and (XS.ge (n+1))))).mono fun E K ⟨e1,e2,g,Q⟩=> ?_),J,M,t⟩;obtain⟨P,O,y,z,A⟩:=JB (K:=K) g s e1 ⟨false,0,3,[[.p .Xq,.p .Xq,.p (LA 0)]],false,153⟩ K [] (by omega);have w:24*b.length<=lim:=by unfold lim;omega
 have x:b.length<=9223372036854775807:=by omega
 have C:=fun h=>Ve 5 h (Xf a)
 have R:=fun h=>OU 5 h (Xf a)
 have q:(pc (Xf a)).take b.length=pc (Xf a):=Zd (by rw[oi];omega);simp(decide:=true)only[Xo,Vx,Xr,reduceIte,Nat.reduceAdd,x109,d,g,X4,e2,w,x,EK,y,z,A,oi,t,Ze,C,q]
end Go.Proofs.YtidginchkjhobaaGreat
