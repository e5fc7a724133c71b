/- Leading terms, in the program and the reference. -/
import Derived.Test.YtidginchkjhobaaGreatQPol
set_option maxHeartbeats 16000000
set_option maxRecDepth 100000
namespace Go.Ev
open Go.Proofs.YtidginchkjhobaaGreat
def V7 (o:M')(b:Qm):I'->Qm
 |[]=>b
 |t::ts=>V7 o (if WY o t.2 b.2=.ofNat 1 then t else b) ts
theorem lz:∀o m n,WY o m n=.ofNat 1\/WY o m n=.negSucc 0\/WY o m n=.ofNat 0
 |[],m,n=>VZ m n
 |r::o,m,n=>by
  simp only[WY];split
  ·exact .inr (.inl rfl)
  ·split
   ·exact .inl rfl
   ·exact lz o m n
theorem PB (o):∀a b,V7 o b a=b\/V7 o b a∈a
 |[],b=>.inl rfl
 |t::a,b=>by
  simp only[V7];split
  ·rcases PB o a t with h|h
   ·exact .inr (by rw[h];exact Zc ..)
   ·exact .inr (Za _ h)
  ·rcases PB o a b with h|h
   ·exact .inl h
   ·exact .inr (Za _ h)
def FZ (E:Xa)(f:Nat)(l:PL)(o:M')(ts:I'):Prop:=∀t∈ts,∀u∈ts,E.pure f [.one l,.agg (mo t.2),.agg (mo u.2)]=some (.one (.int .i64 (WY o t.2 u.2)))
theorem AN {B}(d:Std B){l}{o}(h:SA l o)(e:Vq o)(a:o.length<1000000){c}(b:KK c):XT B fun E _=>FZ E 85 l o c:=
 UG fun t f=>UG fun u g=>(ny d h e (b t f) (b u g) a).Xk
theorem AW {B}(d:Std B){l}{o}(h:SA l o)(e:Vq o)(a:o.length<1000000){c}(b:KK c):XT B fun E _=>FZ E 114 l o c:=
 UG fun t f=>UG fun u g=>(N6 d h e (b t f) (b u g) a).Xk
abbrev rA (c:N'):Xx:=⟨false,0,12,[c.map DL.p],false,75⟩
abbrev zT:Y':=[.p (.bool false),.p .Xp,.p (.bool false),.p .Xp,.p (La0 0),.p (La0 0),.p (La0 0),.p (La0 0),.p (La0 0),.p (La0 0),.p (La0 0),.p (La0 0)]
abbrev My:N':=[.bool false,.Xp,.bool false,.Xp,La0 0,La0 0,La0 0,La0 0,La0 0,La0 0,La0 0,La0 0]
theorem wb {E}{K}{N M}{o}{f}(v:E.mode=md){c}(C:Sl N c)(hl:c.length<1000000)(hc:FZ E 85 M o f):∀{rest} {w},X6 rest w->(∀t∈w,t∈f)->∀i k l b,Vn l b->b∈f->c.drop i=rest->i+rest.length=c.length->rest.length<k->
  ∃a d,Xb E K 0 [0,1,4,6,7] x107_1 k ⟨[(0,La4 N),(1,La4 M),(4,.one (.ptr 0 0 0 0)),(6,.one (.ptr 1 0 0 0)),(7,La1 i)],[⟨false,0,12,[zT],false,75⟩,rA l]⟩=some (.exit 0,⟨a,[⟨false,0,12,[zT],false,75⟩,rA d]⟩)/\(Xi a 4=some (.one (.ptr 0 0 0 0))/\Xi a 6=some (.one (.ptr 1 0 0 0)))/\Vn d (V7 o b w):=by
 intro rest w h;induction h with
 |nil=>
  intro _ i k l b A _ Q G R;rcases k with _|k;omega;have j:¬i<c.length:=by simp at G;omega
  have :∃a,Xb E K 0 [0,1,4,6,7] x107_1 (k+1) ⟨[(0,La4 N),(1,La4 M),(4,.one (.ptr 0 0 0 0)),(6,.one (.ptr 1 0 0 0)),(7,La1 i)],[⟨false,0,12,[zT],false,75⟩,rA l]⟩=some (.exit 0,⟨a,[⟨false,0,12,[zT],false,75⟩,rA l]⟩)/\(Xi a 4=some (.one (.ptr 0 0 0 0))/\Xi a 6=some (.one (.ptr 1 0 0 0))):=by
   apply VW
   ·rw[Xb];simp only[Xo,Xs,reduceIte,Nat.reduceEqDiff,x107_1,C.len,j];rfl
   ·simp only[Xo,reduceIte,Nat.reduceEqDiff,and_self]
  obtain⟨a,m,q⟩:=this;exact⟨a,l,m,q,A⟩
 |@cons ch t rest w T h U=>
  intro g i k l b A r Q G R;rcases k with _|k;omega;simp only[Zj]at G R;have j:i<c.length:=by omega
  obtain⟨gp,O⟩:=Xh Q;have n:=hc t (g t (Zc ..)) b r;have J:=T;have F:=A;obtain⟨x,y,z,u,rfl,-,S⟩:=J;obtain⟨x2,y2,z2,u2,rfl,-,hn⟩:=F;have V:=fun(hh:HF) (kd:IntKind)=>C.idx (h:=hh) (k:=kd) (sz:=12) gp (by simp[XI,S.1])
  have P:Xd .i64 (.ofNat (i+1))=.ofNat (i+1):=wrap_i64 (by omega);have W:=S.1;have X:=hn.1;have Y:(Xu t.2).take 8=Xu t.2:=Ze (by rw[Xc];omega);have Z:(Xu b.2).take 8=Xu b.2:=Ze (by rw[Xc];omega);have dn:(Xu b.2).drop 8=[]:=Zo (by rw[Xc];omega);by_cases B:WY o t.2 b.2=.ofNat 1
  ·obtain⟨a,d,m,q,D⟩:=U (fun s I=>g s (Za _ I)) (i+1) k _ t T (g t (Zc ..)) O (by omega) (by omega);refine⟨a,d,?_,q,by simp only[V7,if_pos B];exact D⟩;rw[B]at n;simp only[rA,Zt,Wj]at m;rw[Xb];simp only[rA,Xo,Xs,VD,reduceIte,Nat.reduceEqDiff,Nat.reduceLeDiff,Nat.reduceLT,Nat.reduceAdd,x107_1,C.len,j,V,Wj,Xc,XI,W,X,Y,Z,dn,Wc,Wg,v,X3,n,P];exact m
  ·obtain⟨a,d,m,q,D⟩:=U (fun s I=>g s (Za _ I)) (i+1) k _ b A r O (by omega) (by omega);refine⟨a,d,?_,q,by simp only[V7,if_neg B];exact D⟩;have H:S6 (.ofNat 0) (WY o t.2 b.2)=false:=by
    rcases lz o t.2 b.2 with e|e|e
    ·exact absurd e B
    ·rw[e];rfl
    ·rw[e];rfl
   simp only[rA,Zt,Wj]at m;rw[Xb];simp only[rA,Xo,Xs,VD,reduceIte,Nat.reduceEqDiff,Nat.reduceLeDiff,Nat.reduceAdd,x107_1,C.len,j,V,Wj,Xc,XI,W,X,Y,Z,Wc,Wg,v,X3,n,H,P];exact m
theorem AH {B}(g:Std B){q e}{o}(Z:SA e o)(T:Vq o)(p:o.length<1000000){t}{a}(d:PQ q (t::a))(hl:a.length<100000):∃c,Xv B 107 [.one q,.one e] (.Wd [.agg c,.one (.bool true)])/\Vn c (V7 o t a):=by
 have m:=d.vC;obtain⟨es,r,d⟩:=d;cases d with
 |@cons ch t rest a C h=>
  have A:=h.length;have P:=AN g Z T p m;have b:∀E K,FZ E 85 e o (t::a)->E.mode=md->rest.length+2<=K->∃c,UN E K x107 [.one q,.one e]=some (.Wd [.agg c,.one (.bool true)])/\Vn c (V7 o t a):=by
   intro E K j l hK;obtain⟨T',f,v,⟨H,I⟩,w⟩:=wb (K:=K) l r (by simp;omega) j h (fun s U=>Za _ U) 1 K ch t C (Zc ..) rfl (by simp;omega) (by omega);refine⟨f,?_,w⟩;obtain⟨x,y,z,u,rfl,-,R⟩:=C;obtain⟨x2,y2,z2,u2,rfl,-,S⟩:=w;have D:=R.1;have Y:=S.1;have V:=fun(Q:HF) (W:IntKind)=>r.idx (h:=Q) (k:=W) (sz:=12) (i:=0) rfl (by simp[XI,D])
   have tm:(Xu t.2).take 8=Xu t.2:=Ze (by rw[Xc];omega);have tn:(Xu (V7 o t a).2).take 8=Xu (V7 o t a).2:=Ze (by rw[Xc];omega);have dm:(Xu t.2).drop 8=[]:=Zo (by rw[Xc];omega);have dn:(Xu (V7 o t a).2).drop 8=[]:=Zo (by rw[Xc];omega);simp only[rA,Zt,Wj]at v;have n:¬rest.length+1=0:=by omega
   simp only[Xo,Xs,VD,reduceIte,Nat.reduceEqDiff,Nat.reduceLeDiff,Nat.reduceAdd,x107,r.len,n,V,Wj,Xc,D,Y,tm,tn,Wc,v,H,I]
  obtain⟨N,O⟩:=P.and (g.Xk.and (XT.ge (B:=B) (rest.length+2)));obtain⟨J,L,M⟩:=O N N (Zf _) (Zf _);obtain⟨c,F,G⟩:=b _ N J L M;refine⟨c,⟨N,N+1,?_⟩,G⟩;show(match B.X 107 with
   |some xf=>UN (B.E N N) N xf _
   |none=>(B.E N N).pure _ _)=_
  rw[g.Wa _ _ rfl];exact F
theorem wo {E}{K}{M}{o}{d}(v:E.mode=md){all}(hl:all.length<1000000)(hc:FZ E 114 M o d):∀{rest} {w},X6 rest w->(∀t∈w,t∈d)->∀i k j b G,Vn j b->b∈d->all.drop i=rest->i+rest.length=all.length->rest.length<k->
  ∃a c n,Xb E K 0 [1,4,6,17,18,19] x61_1 k ⟨[(1,La4 M),(4,.one (.ptr 0 0 0 0)),(6,.one (.ptr 1 0 0 0)),(17,La4 (.Xl all)),(18,La1 all.length),(19,La1 i)],⟨false,0,12,[zT],false,75⟩::rA j::G⟩=some (.exit 0,⟨a,⟨false,0,12,[zT],false,75⟩::rA c::n⟩)/\(Xi a 4=some (.one (.ptr 0 0 0 0))/\Xi a 6=some (.one (.ptr 1 0 0 0)))/\Vn c (V7 o b w):=by
 intro rest w h;have sl:Sl (.Xl all) all:=.Xl;induction h with
 |nil=>
  intro _ i k j b G A _ P F Q;rcases k with _|k;omega;have g:¬i<all.length:=by simp at F;omega
  have :∃a,Xb E K 0 [1,4,6,17,18,19] x61_1 (k+1) ⟨[(1,La4 M),(4,.one (.ptr 0 0 0 0)),(6,.one (.ptr 1 0 0 0)),(17,La4 (.Xl all)),(18,La1 all.length),(19,La1 i)],⟨false,0,12,[zT],false,75⟩::rA j::G⟩=some (.exit 0,⟨a,⟨false,0,12,[zT],false,75⟩::rA j::G⟩)/\(Xi a 4=some (.one (.ptr 0 0 0 0))/\Xi a 6=some (.one (.ptr 1 0 0 0))):=by
   apply VW
   ·rw[Xb];simp only[Xo,Xs,reduceIte,Nat.reduceEqDiff,x61_1,g];rfl
   ·simp only[Xo,reduceIte,Nat.reduceEqDiff,and_self]
  obtain⟨a,l,q⟩:=this;exact⟨a,j,G,l,q,A⟩
 |@cons ch t rest w S h T=>
  intro f i k j b G A r P F Q;rcases k with _|k;omega;simp only[Zj]at F Q;have g:i<all.length:=by omega
  obtain⟨gp,N⟩:=Xh P;have m:=hc t (f t (Zc ..)) b r;have J:=S;have D:=A;obtain⟨x,y,z,u,rfl,-,R⟩:=J;obtain⟨x2,y2,z2,u2,rfl,-,hn⟩:=D;have U:=fun(hh:HF) (kd:IntKind)=>sl.idx (h:=hh) (k:=kd) (sz:=12) gp (by simp[XI,R.1])
  have O:Xd .i64 (.ofNat (i+1))=.ofNat (i+1):=wrap_i64 (by omega);have V:=R.1;have W:=hn.1;have X:(Xu t.2).take 8=Xu t.2:=Ze (by rw[Xc];omega);have Y:(Xu b.2).take 8=Xu b.2:=Ze (by rw[Xc];omega);have Z:(Xu b.2).drop 8=[]:=Zo (by rw[Xc];omega);have w0:=X0 t.2;by_cases B:WY o t.2 b.2=.ofNat 1
  ·obtain⟨a,c,n,l,q,C⟩:=T (fun s I=>f s (Za _ I)) (i+1) k _ t (G++[⟨false,0,12,[.p (.bool x)::.p y::.p (.bool z)::.p u::Xu t.2],false,75⟩]) S (f t (Zc ..)) N (by omega) (by omega);refine⟨a,c,n,?_,q,by simp only[V7,if_pos B];exact C⟩;rw[B]at m;simp only[rA,Zt,Wj]at l;rw[Xb];simp only[rA,Xo,Xs,VD,reduceIte,Nat.reduceEqDiff,Nat.reduceLeDiff,Nat.reduceLT,Nat.reduceAdd,x61_1,g,U,Wj,Xc,V,W,X,Y,Z,Wc,Wg,v,X3,m,O];exact l
  ·obtain⟨a,c,n,l,q,C⟩:=T (fun s I=>f s (Za _ I)) (i+1) k _ b (G++[⟨false,0,12,[.p (.bool x)::.p y::.p (.bool z)::.p u::Xu t.2],false,75⟩]) A r N (by omega) (by omega);refine⟨a,c,n,?_,q,by simp only[V7,if_neg B];exact C⟩;have H:S6 (.ofNat 0) (WY o t.2 b.2)=false:=by
    rcases lz o t.2 b.2 with e|e|e
    ·exact absurd e B
    ·rw[e];rfl
    ·rw[e];rfl
   simp only[rA,Zt,Wj]at l;rw[Xb];simp only[rA,Xo,Xs,VD,reduceIte,Nat.reduceEqDiff,Nat.reduceLeDiff,Nat.reduceAdd,x61_1,g,U,Wj,Xc,V,W,X,Y,Wc,Wg,v,X3,m,H,O];exact l
theorem Xv.eE {B}{f}{a}{b}{p:PV->Prop}(g:B.X f=some b)(h:XT B fun E K=>∃r,UN E K b a=some r/\p r):∃r,Xv B f a r/\p r:=by
 obtain⟨N,e⟩:=h;obtain⟨r,c,d⟩:=e N N (Zf _) (Zf _);refine⟨r,⟨N,N+1,?_⟩,d⟩;show(match B.X f with
  |some b=>UN (B.E N N) N b a
  |none=>(B.E N N).pure f a)=some r
 rw[g];exact c
theorem AT {B}(v:Std B){M L}{o}(so:SA L o)(ho:Vq o)(H:o.length<1000000){t}{f}(m:PQ M (t::f))(hl:f.length<100000):∃c,Xv B 61 [.one M,.one L] (.Wd [.agg c,.one (.bool true)])/\Vn c (V7 o t f):=by
 have F:=m.vC;obtain⟨es,N,m⟩:=m;cases m with
 |@cons ch t rest f R h=>
  have l:=h.length;have Y:=AW v so ho H F;have q:=Sl.VU N;obtain⟨r,W,c,rfl,X⟩:=Xv.eE (p:=fun r=>∃c,r=.Wd [.agg c,.one (.bool true)]/\Vn c (V7 o t f)) (v.Wa 61 _ rfl) (a:=[.one M,.one L]) ((Y.and (v.Xk.and (XT.ge (rest.length+2)))).mono fun E K ⟨w,D,hK⟩=>by
   obtain⟨T',n,G',O,⟨U,V⟩,P⟩:=wo (K:=K) D (all:=rest) (by omega) w h (fun s hs=>Za _ hs) 0 K ch t [] R (Zc ..) rfl (by omega) (by omega);refine⟨_,?_,n,rfl,P⟩;have A:∀d∈rest,d.length=12:=by
    intro d Z;obtain⟨i,Q⟩:=Zv.1 Z;have :i<f.length:=by rw[<-l];exact(Zg.1 Q).1
    obtain⟨d',g,I⟩:=h.get i _ (Zd this);rw[Q]at g;obtain rfl:=Option.some.inj g;obtain⟨a,b,c,e,rfl,-,I⟩:=I;simp[XI,I.1]
   obtain⟨x,y,z,u,rfl,-,hm⟩:=R;obtain⟨x2,y2,z2,u2,rfl,-,hn⟩:=P;have T:=hm.1;have n8:=hn.1;have S:=fun(C:HF) (kd:IntKind)=>N.idx (h:=C) (k:=kd) (sz:=12) (i:=0) rfl (by simp[XI,T])
   have tm:(Xu t.2).take 8=Xu t.2:=Ze (by rw[Xc];omega);have tn:(Xu (V7 o t f).2).take 8=Xu (V7 o t f).2:=Ze (by rw[Xc];omega);have dm:(Xu t.2).drop 8=[]:=Zo (by rw[Xc];omega);have dn:(Xu (V7 o t f).2).drop 8=[]:=Zo (by rw[Xc];omega);simp only[rA,Zt,Wj]at O;have G:¬rest.length+1=0:=by omega
   have J:=fun C=>Ul (c:=.bool x::y::.bool z::u::mo t.2) A C
   have j:=N.len;rw[q]at S j⊢;simp only[Xo,Xs,VD,reduceIte,Nat.reduceEqDiff,Nat.reduceLeDiff,Nat.reduceAdd,x61,j,Sl.Xl.len,J,G,S,Wj,Xc,T,n8,tm,tn,Wc,O,U,V])
  exact⟨c,W,X⟩
def XB (o:M'):I'->Option Qm
 |[]=>none
 |t::ts=>some (V7 o t ts)
def WW (o:M')(m:P'):S'->Nat->Option Nat
 |[],_=>none
 |f::fs,i=>match XB o f with
  |some s=>if Ww s.2 m=true then some i else WW o m fs (i+1)
  |none=>WW o m fs (i+1)
def We (t s:Qm):Qm:=(t.1 / s.1,XO t.2 s.2)
theorem AI {B}(d:Std B){c e}(b:PQ c []):Xv B 107 [.one c,.one e] (.Wd [.agg My,.one (.bool false)]):=by
 obtain⟨g,f,b⟩:=b;cases b;have a:=f.len;refine Xv.of (d.Wa _ _ rfl) (XT.of fun K n=> ?_);simp only[Xo,Xs,reduceIte,Nat.reduceEqDiff,Nat.reduceLeDiff,x107,a]
theorem T9 {B}(e:Std B){h g}{o}(m:SA g o)(l:Vq o)(d:o.length<1000000){a}(f:PQ h a)(k:a.length<100000):∃c b,Xv B 107 [.one h,.one g] (.Wd [.agg c,.one (.bool b)])/\match XB o a with |some s=>b=true/\Vn c s|none=>b=false/\c=My:=by
 cases a with
 |nil=>exact⟨My,false,AI e f,rfl,rfl⟩
 |cons t a=>
  obtain⟨c,i,j⟩:=AH e m l d f (by simp at k;omega);exact⟨c,true,i,rfl,j⟩
theorem AB {B}(a:Std B){c d}{t s}(l:Vn c t)(m:Vn d s)(o:Sq t.1)(n:Sq s.1)(h0:s.1≠0)(g:Ww s.2 t.2=true):∃e,Xv B 113 [.agg c,.agg d] (.agg e)/\Vn e (We t s):=by
 obtain⟨x,y,z,u,rfl,v,b⟩:=l;obtain⟨x2,M,N,L,rfl,w,f⟩:=m;obtain⟨e,j,i⟩:=Jk a v w o n h0;have k:=jl a b f g;obtain⟨G,H,I,J,rfl⟩:=i.len;have q:=b.1;have r:=f.1;have p:=(Tf b f).1;have C:(Xu t.2).take 8=Xu t.2:=Ze (by rw[Xc];omega);have D:(Xu s.2).take 8=Xu s.2:=Ze (by rw[Xc];omega);have A:(Xu (XO t.2 s.2)).take 8=Xu (XO t.2 s.2):=Ze (by rw[Xc];omega);have F:(Xu (XO t.2 s.2)).drop 8=[]:=Zo (by rw[Xc];omega);refine⟨_,Xv.of (a.Wa _ _ rfl) ((j.Xk.and (k.Xk.and a.Xk)).mono fun E K ⟨e1,e2,h⟩=> ?_),Vn.mk i (Tf b f)⟩;simp+decide only[Xo,Xs,reduceIte,Nat.reduceAdd,x113,Wj,Xc,q,r,p,C,D,A,Wc,Wg,h,X3,e1,e2]
theorem sJ {B}(d:Std B){c}{t}(i:Vn c t)(o:Sq t.1)(h0:t.1≠0){l}{b}(m:PQ l b)(n:Sz b)(k:∀u∈b,XA (Xg t.2 u.2))(j:b.length<1000000):
  ∃a,Xv B 112 [.agg c,.one l] (.one (.Xl a))/\X6 a (XD t.1 t.2 b):=by
 obtain⟨x,y,z,u,rfl,q,f⟩:=i;obtain⟨a,g,h⟩:=bX d q o h0 f m n k j;have p:=f.1;have r:(Xu t.2).take 8=Xu t.2:=Ze (by rw[Xc];omega);refine⟨a,Xv.of (d.Wa _ _ rfl) ((g.Xk.and d.Xk).mono fun E K ⟨e1,e⟩=> ?_),h⟩;simp+decide only[Xo,Xs,reduceIte,Nat.reduceAdd,x112,Wj,Xc,p,r,Wc,Wg,e,X3,e1]
theorem JU {a b:Type}{p q:a->b->Prop}{x}{y}(h:p x y)(k:q x y):∃x y,p x y/\q x y:=⟨x,y,h,k⟩
abbrev VV (ls:N')(fs:S'):Prop:=XE PQ ls fs
def Xf (ls:N'):Z':=ls.map fun p=>[p]
theorem XK {a:N'}{i:Nat}{p:PL}(h:a[i]? =some p):(Xf a)[i]? =some [p]:=by simp[Xf,h]
theorem Xt (a):(Xf a).length=a.length:=by simp[Xf]
inductive OD (E:Xa)(lo:PL)(m:P'):N'->Nat->Option Nat->Prop
 |nil {i:Nat}:OD E lo m [] i none
 |skip {p x y z u:PL} {k:P'} {ps:N'} {i:Nat} {r:Option Nat} (hk:k.length=8) (h1:E.pure 107 [.one p,.one lo]=some (.Wd [.agg (x::y::z::u::mo k),.one (.bool false)])) (h:OD E lo m ps (i+1) r):OD E lo m (p::ps) i r
 |no {p x y z u:PL} {k:P'} {ps:N'} {i:Nat} {r:Option Nat} (hk:k.length=8) (h1:E.pure 107 [.one p,.one lo]=some (.Wd [.agg (x::y::z::u::mo k),.one (.bool true)])) (h2:E.pure 133 [.agg (mo k),.agg (mo m)]=some (.one (.bool false))) (h:OD E lo m ps (i+1) r):OD E lo m (p::ps) i r
 |yes {p x y z u:PL} {k:P'} {ps:N'} {i:Nat} (hk:k.length=8) (h1:E.pure 107 [.one p,.one lo]=some (.Wd [.agg (x::y::z::u::mo k),.one (.bool true)])) (h2:E.pure 133 [.agg (mo k),.agg (mo m)]=some (.one (.bool true))):OD E lo m (p::ps) i (some i)
theorem kK {B}(q:Std B){t}{o}(F:SA t o)(A:Vq o)(e:o.length<1000000){m}(w:XA m):∀{D} {l},VV D l->(∀f∈l,f.length<100000)->∀i,XT B fun E _=>OD E t m D i (WW o m l i)
 |_,_,.nil,_,i=>XT.of fun _ _=>.nil
 |_,_,.cons (x:=p) (y:=f) hp h,hl,i=>by
  have C:=kK q F A e w h (fun g H=>hl g (Za _ H)) (i+1);obtain⟨c,b,n,a⟩:=T9 q F A e hp (hl f (Zc ..));unfold WW;cases d:XB o f with
  |none=>
   simp only[d]at a;obtain⟨rfl,rfl⟩:=a;refine(C.and n.Xk).mono fun E K ⟨e1,e2⟩=> ?_
   exact .skip (k:=[0,0,0,0,0,0,0,0]) rfl e2 e1
  |some s=>
   simp only[d]at a;obtain⟨rfl,a⟩:=a;obtain⟨x,y,z,u,rfl,-,r⟩:=a;have j:=Oc q r.1 w.1;show XT B fun E _=>OD E t m (p::_) i (if Ww s.2 m=true then some i else WW o m _ (i+1))
   cases v:Ww s.2 m with
   |true=>
    rw[v]at j;refine(n.Xk.and j.Xk).mono fun E K ⟨e1,e2⟩=> ?_
    rw[if_pos rfl];exact .yes r.1 e1 e2
   |false=>
    rw[v]at j;refine(C.and (n.Xk.and j.Xk)).mono fun E K ⟨G,e1,e2⟩=> ?_
    rw[if_neg (by simp)];exact .no r.1 e1 e2 G
theorem EW {E:Xa}{K:Nat}{L R:PL}{m:P'}(g:E.mode=md)(Q:m.length=8){b:N'}(n:Sl L (Xf b))(U:b.length<1000000):∀{rest:N'} {i:Nat} {r:Option Nat},OD E R m rest i r->∀(k:Nat) (G:V'),b.drop i=rest->i+rest.length=b.length->rest.length<k->
  ∃o t,Xb E K 0 [0,1,5,7] x148_1 k ⟨[(0,La4 L),(1,La4 R),(5,.one (.ptr 0 0 0 0)),(7,La1 i)],⟨false,0,8,[Xu m],false,73⟩::G⟩=some (match r with |some _=>.ret|none=>.exit 0,⟨o,t⟩)/\match r with |some j=>Xi o 6=some (La1 j)|none=>True:=by
 intro rest i r h;induction h with
 |@nil i=>
  intro k G q f s;rcases k with _|k;omega;have d:¬i<b.length:=by simp at f;omega
  have a:=n.len;rw[Xt]at a;apply JU
  ·rw[Xb];simp only[Xo,Xs,reduceIte,Nat.reduceEqDiff,x148_1,a,d];rfl
  ·trivial
 |@skip p x y z u c S i r e w h N=>
  intro k G q f s;rcases k with _|k;omega;simp only[Zj]at f s;have d:i<b.length:=by omega
  have a:=n.len;rw[Xt]at a;obtain⟨v,D⟩:=Xh q;have B:=fun(A:HF) (C:IntKind)=>n.idx (h:=A) (k:=C) (sz:=1) (XK v) rfl
  have H:Xd .i64 (.ofNat (i+1))=.ofNat (i+1):=wrap_i64 (by omega);have F:(Xu c).take 8=Xu c:=Ze (by rw[Xc];omega);have P:(Xu c).drop 8=[]:=Zo (by rw[Xc];omega);have T:=X0 c;obtain⟨o,t,I,J⟩:=N k (G++[⟨false,0,12,[.p x::.p y::.p z::.p u::Xu c],false,75⟩]) D (by omega) (by omega);refine⟨o,t,?_,J⟩;rw[Xb];simp only[Xo,Xs,VD,reduceIte,Nat.reduceEqDiff,Nat.reduceLeDiff,Nat.reduceAdd,x148_1,a,d,B,Wj,Xc,e,g,X3,w,H];exact I
 |@no p x y z u c S i r e w M h N=>
  intro k G q f s;rcases k with _|k;omega;simp only[Zj]at f s;have d:i<b.length:=by omega
  have a:=n.len;rw[Xt]at a;obtain⟨v,D⟩:=Xh q;have B:=fun(A:HF) (C:IntKind)=>n.idx (h:=A) (k:=C) (sz:=1) (XK v) rfl
  have H:Xd .i64 (.ofNat (i+1))=.ofNat (i+1):=wrap_i64 (by omega);have F:(Xu c).take 8=Xu c:=Ze (by rw[Xc];omega);have P:(Xu c).drop 8=[]:=Zo (by rw[Xc];omega);have O:(Xu m).take 8=Xu m:=Ze (by rw[Xc];omega);have T:=X0 c;obtain⟨o,t,I,J⟩:=N k (G++[⟨false,0,12,[.p x::.p y::.p z::.p u::Xu c],false,75⟩]) D (by omega) (by omega);refine⟨o,t,?_,J⟩;rw[Xb];simp only[Xo,Xs,VD,reduceIte,Nat.reduceEqDiff,Nat.reduceLeDiff,Nat.reduceAdd,x148_1,a,d,B,Wj,Xc,e,Q,F,O,Wc,Wg,g,X3,w,M,H];exact I
 |@yes p x y z u c S i e w M=>
  intro k G q f s;rcases k with _|k;omega;simp only[Zj]at f s;have d:i<b.length:=by omega
  have a:=n.len;rw[Xt]at a;obtain⟨v,D⟩:=Xh q;have B:=fun(A:HF) (C:IntKind)=>n.idx (h:=A) (k:=C) (sz:=1) (XK v) rfl
  have F:(Xu c).take 8=Xu c:=Ze (by rw[Xc];omega);have P:(Xu c).drop 8=[]:=Zo (by rw[Xc];omega);have O:(Xu m).take 8=Xu m:=Ze (by rw[Xc];omega);have T:=X0 c;apply JU
  ·rw[Xb];simp only[Xo,Xs,VD,reduceIte,Nat.reduceEqDiff,Nat.reduceLeDiff,Nat.reduceAdd,x148_1,a,d,B,Wj,Xc,e,Q,F,O,Wc,Wg,g,X3,w,M];rfl
  ·simp only[Xo,reduceIte,Nat.reduceEqDiff]
def xz:Option Nat->Int
 |some j=>.ofNat j
 |none=>.negSucc 0
theorem oe {B}(d:Std B){L p}{o}(v:SA p o)(t:Vq o)(i:o.length<1000000){m}(e:XA m){k}{a}(u:Sl L (Xf k))(h:VV k a)(s:∀f∈a,f.length<100000)(r:a.length<100000):Xv B 148 [.one L,.one p,.agg (mo m)] (.one (.int .i64 (xz (WW o m a 0)))):=by
 have l:=h.length;refine Xv.of (d.Wa _ _ rfl) (((kK d v t i e h s 0).and (d.Xk.and (XT.ge (k.length+1)))).mono fun E K ⟨e1,g,y⟩=> ?_);obtain⟨x,w,b,c⟩:=EW (K:=K) g e.1 u (by omega) e1 K [] rfl (by omega) (by omega);have q:=e.1;cases n:WW o m a 0 with
 |none=>
  simp only[n]at b c;simp only[Xo,Xs,reduceIte,Nat.reduceEqDiff,Nat.reduceLeDiff,Nat.reduceAdd,x148,Wj,Xc,q,b,xz]
 |some j=>
  simp only[n]at b c;simp only[Xo,Xs,reduceIte,Nat.reduceEqDiff,Nat.reduceLeDiff,Nat.reduceAdd,x148,Wj,Xc,q,b,c,xz]
inductive fI (o:M')(sz:I'->Prop)(ok:P'->Prop)(fs:S'):I'->S'->I'->S'->I'->Prop
 |done {qs:S'} {r:I'}:fI o sz ok fs [] qs r qs r
 |rem {left:I'} {t:Qm} {qs qs':S'} {r r':I'} (c1:sz left) (c2:sz r) (c3:sz [t]) (hl:XB o left=some t) (hf:WW o t.2 fs 0=none)
   (h:fI o sz ok fs (X8 left (WE [t])) qs (X8 r [t]) qs' r'):fI o sz ok fs left qs r qs' r'
 |div {left:I'} {t s:Qm} {i:Nat} {f q:I'} {qs qs':S'} {r r':I'} (c1:sz left) (c2:sz f) (c3:sz [t]) (c4:sz [s]) (c5:sz [We t s]) (c6:sz q) (c7:sz (XD (We t s).1 (We t s).2 f)) (c8:s.1≠0) (c9:(We t s).1≠0) (c10:∀u∈f,ok (Xg (We t s).2 u.2))
   (hl:XB o left=some t) (hf:WW o t.2 fs 0=some i) (hi:fs[i]? =some f) (hs:XB o f=some s) (hd:Ww s.2 t.2=true) (hq:qs[i]? =some q)
   (h:fI o sz ok fs (X8 left (WE (XD (We t s).1 (We t s).2 f))) (qs.set i (X8 q [We t s])) r qs' r'):fI o sz ok fs left qs r qs' r'
def Q4 (ts:I'):Prop:=Sz ts/\ts.length<50000
theorem Q4.one {t}(h:Q4 [t]):Sq t.1:=h.1 t (Zc ..)
structure LZ (E:Xa)(lo L lleft lr:PL)(t1 t2 t3 t4:PL)(m:P')(lf' r':Z'):Prop where
 lead:E.pure 107 [.one lleft,.one lo]=some (.Wd [.agg (t1::t2::t3::t4::mo m),.one (.bool true)])
 first :E.pure 148 [.one L,.one lo,.agg (mo m)]=some (.one (.int .i64 (.negSucc 0)))
 add:E.pure 10 [.one lr,.one (.Xl [t1::t2::t3::t4::mo m])]=some (.one (.Xl r'))
 sub:E.pure 12 [.one lleft,.one (.Xl [t1::t2::t3::t4::mo m])]=some (.one (.Xl lf'))
abbrev A3 (n:Nat)(lr:PL):Xx:=⟨false,0,3,[[.own 1 0 0 n,.p lr,.p (La0 0)]],false,153⟩
abbrev qB (lqs:N'):Xx:=⟨false,0,1,pc (Xf lqs),false,33⟩
theorem AM {E}{K k}{g L a l x y z A}{m}{c o}(f:E.mode=md)(v:m.length=8)(d:LZ E g L a l x y z A m c o){n}{j}(w:Sl a j)(e:0<j.length)(h i)(G):
  ∃q,Xb E K 0 [1,2,6,7,8] x109_1 (k+1) ⟨[(1,La4 L),(2,La4 g),(6,.one (.ptr 0 0 0 0)),(7,.one (.ptr 2 0 0 0)),(8,La4 a)],h::i::A3 n l::G⟩=Xb E K 0 [1,2,6,7,8] x109_1 k ⟨[(1,La4 L),(2,La4 g),(6,.one (.ptr 0 0 0 0)),(7,.one (.ptr 2 0 0 0)),(8,La4 (.Xl c))],h::i::A3 n (.Xl o)::q⟩:=by
 have b:=w.len;have B:(Xu m).take 8=Xu m:=Ze (by rw[Xc];omega);have C:(Xu m).drop 8=[]:=Zo (by rw[Xc];omega);have D:=X0 m;have r:=d.lead;have s:=d.first;have t:=d.add;have u:=d.sub;apply Exists.intro;rw[Xb];simp+decide only[Xo,Xs,VD,Vv,reduceIte,Nat.reduceLeDiff,Nat.reduceAdd,x109_1,b,e,Wj,Xc,v,B,Wc,Wg,f,X3,PL.scalar,VM,V4,Zp,r,s,t,u];rfl
theorem yI {a:N'}{i:Nat}{p:PL}(h:a[i]? =some p):(pc (Xf a))[i]? =some [.p p]:=by simp[pc,Xf,h]
theorem yH (a)(i)(p):(pc (Xf a)).set i [.p p]=pc (Xf (a.set i p)):=by simp[pc,Xf,List.map_set]
theorem qc (a):(pc (Xf a)).length=a.length:=by simp[pc,Xf]
structure Mc (E:Xa)(lo L lleft:PL)(t1 t2 t3 t4:PL)(m:P')(i:Nat)(pf:PL)(s1 s2 s3 s4:PL)(m2:P')(e1 e2 e3 e4:PL)(m3:P')(pq:PL)(q' pr lf':Z'):Prop where
 lead:E.pure 107 [.one lleft,.one lo]=some (.Wd [.agg (t1::t2::t3::t4::mo m),.one (.bool true)])
 first :E.pure 148 [.one L,.one lo,.agg (mo m)]=some (.one (La0 i))
 Lz:E.pure 107 [.one pf,.one lo]=some (.Wd [.agg (s1::s2::s3::s4::mo m2),.one (.bool true)])
 Lu:E.pure 113 [.agg (t1::t2::t3::t4::mo m),.agg (s1::s2::s3::s4::mo m2)]=some (.agg (e1::e2::e3::e4::mo m3))
 add:E.pure 10 [.one pq,.one (.Xl [e1::e2::e3::e4::mo m3])]=some (.one (.Xl q'))
 times:E.pure 112 [.agg (e1::e2::e3::e4::mo m3),.one pf]=some (.one (.Xl pr))
 sub:E.pure 12 [.one lleft,.one (.Xl pr)]=some (.one (.Xl lf'))
theorem BY {E:Xa}{K k:Nat}{r L a y t1 t2 t3 t4 Z s2 s3 s4 e1 e2 I J A B:PL}{m m2 d:P'}{i:Nat}{C Y f:Z'}(q:E.mode=md)(V:m.length=8)(n:m2.length=8)(o:d.length=8)(c:Mc E r L a t1 t2 t3 t4 m i A Z s2 s3 s4 m2 e1 e2 I J d B C Y f){w:Z'}(sl:Sl a w)(g:0<w.length)
  {z:N'} (s:Sl L (Xf z)) (T:z[i]? =some A) {b:N'} (x:b[i]? =some B) (v:Xx) (G:V'):
  ∃D,Xb E K 0 [1,2,6,7,8] x109_1 (k+1) ⟨[(1,La4 L),(2,La4 r),(6,.one (.ptr 0 0 0 0)),(7,.one (.ptr 2 0 0 0)),(8,La4 a)],v::qB b::A3 b.length y::G⟩=Xb E K 0 [1,2,6,7,8] x109_1 k ⟨[(1,La4 L),(2,La4 r),(6,.one (.ptr 0 0 0 0)),(7,.one (.ptr 2 0 0 0)),(8,La4 (.Xl f))],v::qB (b.set i (.Xl C))::A3 b.length y::D⟩:=by
 have e:=sl.len;have tm:(Xu m).take 8=Xu m:=Ze (by rw[Xc];omega);have dk:(Xu m).drop 8=[]:=Zo (by rw[Xc];omega);have w0:=X0 m;have t:(Xu m2).take 8=Xu m2:=Ze (by rw[Xc];omega);have F:(Xu m2).drop 8=[]:=Zo (by rw[Xc];omega);have u:(Xu d).take 8=Xu d:=Ze (by rw[Xc];omega);have H:(Xu d).drop 8=[]:=Zo (by rw[Xc];omega);have j:=yI x;have l:i<b.length:=(Zg.mp x).1;have w2:=X0 m2;have w3:=X0 d;have M:=c.lead;have N:=c.first;have O:=c.Lz;have P:=c.Lu;have Q:=c.add;have R:=c.times;have S:=c.sub;have W:=fun(U:HF) (X:IntKind)=>s.idx (h:=U) (k:=X) (sz:=1) (XK T) rfl
 apply Exists.intro;rw[Xb];simp+decide only[Xo,Xs,VD,Vv,reduceIte,Nat.reduceEqDiff,Nat.reduceLeDiff,Nat.reduceAdd,x109_1,e,g,Wj,Xc,V,n,o,tm,Wc,Wg,q,X3,PL.scalar,VM,V4,Zp,M,N,O,P,Q,R,S,W,Zn,t,u,j,l,yH,Nat.not_lt_zero];rfl
inductive xP (E:Xa)(lo L:PL)(ls:N')(N:Nat):Nat->PL->N'->PL->N'->PL->Prop
 |done {lf:PL} {qs:N'} {r:PL} (sl:Sl lf []) (hN:qs.length=N):xP E lo L ls N 0 lf qs r qs r
 |rem {n:Nat} {lf r:PL} {qs qs':N'} {r':PL} {t1 t2 t3 t4:PL} {m:P'} {lf1 r1 es:Z'} (hm:m.length=8) (hr:LZ E lo L lf r t1 t2 t3 t4 m lf1 r1) (sl:Sl lf es) (hes:0<es.length)
   (h:xP E lo L ls N n (.Xl lf1) qs (.Xl r1) qs' r'):xP E lo L ls N (n+1) lf qs r qs' r'
 |div {n i:Nat} {lf r pf pq:PL} {qs qs':N'} {r':PL} {t1 t2 t3 t4 s1 s2 s3 s4 e1 e2 e3 e4:PL} {m m2 m3:P'} {q1 pr lf1 es:Z'} (hm:m.length=8) (hm2:m2.length=8) (hm3:m3.length=8)
   (hr:Mc E lo L lf t1 t2 t3 t4 m i pf s1 s2 s3 s4 m2 e1 e2 e3 e4 m3 pq q1 pr lf1) (sl:Sl lf es) (hes:0<es.length) (hL:ls[i]? =some pf) (hq:qs[i]? =some pq) (hN:qs.length=N)
   (h:xP E lo L ls N n (.Xl lf1) (qs.set i (.Xl q1)) r qs' r'):xP E lo L ls N (n+1) lf qs r qs' r'
theorem Vn.eight {c}{t}(h:Vn c t):∃f g i j,c=f::g::i::j::mo t.2:=by
 obtain⟨a,b,d,e,rfl,-,-⟩:=h;exact⟨_,_,_,_,rfl⟩
theorem Vn.jP {c}{t}(h:Vn c t):XA t.2:=by
 obtain⟨a,b,d,e,-,-,h⟩:=h;exact h
theorem Vn.one {c}{t}(h:Vn c t):PQ (.Xl [c]) [t]:=⟨[c],.Xl,.cons h .nil⟩
theorem nT {o}{a}{t}(h:XB o a=some t):0<a.length:=by
 cases a with
 |nil=>cases h
 |cons _ _=>simp
theorem VV.get {b:N'}{a:S'}(h:VV b a):∀{i:Nat} {f:I'},a[i]? =some f->∃p,b[i]? =some p/\PQ p f:=by
 induction h with
 |nil=>intro i f h;cases h
 |@cons x y k l e j g=>
  intro i f h;cases i with
  |zero=>rw[List.getElem?_cons_zero]at h;cases h;exact⟨x,rfl,e⟩
  |succ i=>rw[List.getElem?_cons_succ]at h;obtain⟨p,c,d⟩:=g h;exact⟨p,by rw[List.getElem?_cons_succ];exact c,d⟩
theorem VV.set {b}{a}(h:VV b a){p}{f}(e:PQ p f):∀i,VV (b.set i p) (a.set i f):=by
 induction h with
 |nil=>intro i;exact .nil
 |@cons x y j k c d g=>
  intro i;cases i with
  |zero=>exact .cons e d
  |succ i=>exact .cons c (g i)
theorem De {B:Xq}(m:Std B){L lo:PL}{o:M'}(T:SA lo o)(M:Vq o)(u:o.length<1000000){ls:N'}{X:S'}(sl:Sl L (Xf ls))(z:VV ls X)(hl:∀f∈X,f.length<100000)(I:X.length<100000)(N:Nat)
  {left r Z:I'} {R v:S'} (h:fI o Q4 XA X left R r v Z):
  ∀(O C:PL) (g:N'),PQ O left->PQ C r->VV g R->g.length=N->∃n a l,(XT B fun E _=>xP E lo L ls N n O g C a l)/\VV a v/\PQ l Z/\a.length=N:=by
 induction h with
 |@done R r=>
  intro O C g j P D x;obtain⟨W,S,j⟩:=j;cases j;exact⟨0,g,C,XT.of fun _ _=>.done S x,D,P,x⟩
 |@rem left t R v r Z F G c3 p hf h ih=>
  intro O C g j P D x;have l1:=F.2;have l2:=G.2;obtain⟨c,b,g1,k⟩:=T9 m T M u j (by omega);simp only[p]at k;obtain⟨rfl,k⟩:=k;have J:=k.jP;have H:=oe m T M u J sl z hl I;rw[hf]at H;have po:=k.one;obtain⟨r1,g4,p4⟩:=Si m P po G.1 c3.1 (by omega) (by simp);obtain⟨A,w,p5⟩:=Qf m j po F.1 c3.1 (by omega) (by simp);obtain⟨n,a,l,k1,k2,k3,k4⟩:=ih (.Xl A) (.Xl r1) g ⟨_,.Xl,p5⟩ ⟨_,.Xl,p4⟩ D x;obtain⟨W,S,j⟩:=j;obtain⟨t1,t2,t3,t4,rfl⟩:=k.eight;have y:0<W.length:=by rw[j.length];exact nT p
  exact⟨n+1,a,l,(k1.and (g1.Xk.and (H.Xk.and (g4.Xk.and w.Xk)))).mono fun E K ⟨e0,e1,U,V,e5⟩=>.rem J.1 ⟨e1,U,V,e5⟩ S y e0,k2,k3,k4⟩
 |@div left t s i f q R v r Z F G c3 c4 c5 c6 c7 c8 c9 c10 p hf hi hs hd hq h ih=>
  intro O C g j P D x;have l1:=F.2;have l2:=G.2;have l6:=c6.2;have l7:=c7.2;obtain⟨c,b,g1,k⟩:=T9 m T M u j (by omega);simp only[p]at k;obtain⟨rfl,k⟩:=k;have J:=k.jP;have H:=oe m T M u J sl z hl I;rw[hf]at H;obtain⟨pf,a4,Q⟩:=z.get hi;obtain⟨pq,a5,a7⟩:=D.get hq;obtain⟨d,b,g4,w⟩:=T9 m T M u Q (by omega);simp only[hs]at w;obtain⟨rfl,w⟩:=w;have a2:=w.jP;obtain⟨e,g6,Y⟩:=AB m k w c3.one c4.one c8 hd;have a3:=Y.jP;obtain⟨q1,g8,p8⟩:=Si m a7 Y.one c6.1 c5.1 (by omega) (by simp);obtain⟨pr,g9,p9⟩:=sJ m Y c5.one c9 Q G.1 c10 (by omega);obtain⟨A,a1,a6⟩:=Qf m j ⟨pr,.Xl,p9⟩ F.1 c7.1 (by omega) (by omega);obtain⟨n,a,l,k1,k2,k3,k4⟩:=ih (.Xl A) C (g.set i (.Xl q1)) ⟨_,.Xl,a6⟩ P (D.set ⟨_,.Xl,p8⟩ i) (by rw[Yi];exact x);obtain⟨W,S,j⟩:=j;obtain⟨t1,t2,t3,t4,rfl⟩:=k.eight;obtain⟨a9,s2,s3,s4,rfl⟩:=w.eight;obtain⟨a8,e2,U,V,rfl⟩:=Y.eight;have y:0<W.length:=by rw[j.length];exact nT p
  exact⟨n+1,a,l,(k1.and (g1.Xk.and (H.Xk.and (g4.Xk.and (g6.Xk.and (g8.Xk.and (g9.Xk.and a1.Xk))))))).mono fun E K ⟨e0,e1,U,V,e6,e8,e9,a0⟩=>.div J.1 a2.1 a3.1 ⟨e1,U,V,e6,e8,e9,a0⟩ S y a4 a5 x e0,k2,k3,k4⟩
theorem Ly {E}{K}(f:E.mode=md){D L}{H}(A:Sl L (Xf H)){N n}{z F j}{i a}(h:xP E D L H N n z i F a j)(m):∀k G,n<k->
  ∃b d,Xb E K 0 [1,2,6,7,8] x109_1 k ⟨[(1,La4 L),(2,La4 D),(6,.one (.ptr 0 0 0 0)),(7,.one (.ptr 2 0 0 0)),(8,La4 z)],m::qB i::A3 N F::G⟩=some (.exit 0,⟨b,m::qB a::A3 N j::d⟩)/\Xi b 6=some (.one (.ptr 0 0 0 0))/\Xi b 7=some (.one (.ptr 2 0 0 0)):=by
 induction h with
 |@done z M r l B=>
  intro k G C;rcases k with _|k;omega;have e:=l.len;apply JU
  ·rw[Xb];simp only[Xo,Xs,reduceIte,Nat.reduceEqDiff,x109_1,e,Zx];rfl
  ·refine⟨?_,?_⟩<;>simp only[Xo,reduceIte,Nat.reduceEqDiff]
 |rem u x l c h y=>
  intro k G C;rcases k with _|k;omega;obtain⟨q,o⟩:=AM (K:=K) (k:=k) (n:=N) f u x l c m (qB _) G;obtain⟨b,d,s,t⟩:=y k q (by omega);exact⟨b,d,o.trans s,t⟩
 |div u v w x l c I J B h y=>
  intro k G C;rcases k with _|k;omega;obtain⟨q,o⟩:=BY (K:=K) (k:=k) f u v w x l c A I J m G;obtain⟨b,d,s,t⟩:=y k q (by omega);rw[B]at o;exact⟨b,d,o.trans s,t⟩
theorem GS (n):List.replicate n [DL.p .Xp]=pc (Xf (List.replicate n .Xp)):=by simp[pc,Xf]
theorem VV.zero:∀n,VV (List.replicate n .Xp) (List.replicate n [])
 |0=>.nil
 |n+1=>.cons ⟨[],.nil,.nil⟩ (VV.zero n)
theorem HO {B}(j:Std B){L r}{o}(O:SA r o)(G:Vq o)(m:o.length<1000000){v}{b}(t:Sl L (Xf v))(e:VV v b)(F:∀f∈b,f.length<100000)(k:b.length<100000)(I:Xv B 22 [.one r] (.one (.bool true)))
  {s} {p w} {i} (H:PQ s p) (h:fI o Q4 XA b p (List.replicate b.length []) [] i w):
  ∃a c,Xv B 109 [.one s,.one L,.one r] (.agg [.Xl (Xf a),c,La0 0])/\VV a i/\PQ c w/\a.length=b.length:=by
 obtain⟨n,a,c,J,M,N,u⟩:=De j O G m t e F k b.length h s .Xp (List.replicate b.length .Xp) H ⟨[],.nil,.nil⟩ (VV.zero _) (by rw[YL]);have d:=t.len;have l:=e.length;rw[Xt,l]at d;refine⟨a,c,Xv.of (j.Wa _ _ rfl) ((J.and (I.Xk.and (j.Xk.and (XT.ge (n+1))))).mono fun E K ⟨e1,e2,g,R⟩=> ?_),M,N,u⟩;obtain⟨Q,P,z,A,C⟩:=Ly (K:=K) g t e1 ⟨false,0,3,[[.p .Xp,.p .Xp,.p (La0 0)]],false,153⟩ K [] (by omega);have x:24*b.length<=lim:=by unfold lim;omega
 have y:b.length<=9223372036854775807:=by omega
 have D:=fun h=>Vb 5 h (Xf a)
 have S:=fun h=>Nl 5 h (Xf a)
 have q:(pc (Xf a)).take b.length=pc (Xf a):=Ze (by rw[qc];omega);simp+decide only[Xo,Vv,Xs,reduceIte,Nat.reduceAdd,x109,d,g,X3,e2,x,y,GS,z,A,C,qc,u,Zf,D,q]
