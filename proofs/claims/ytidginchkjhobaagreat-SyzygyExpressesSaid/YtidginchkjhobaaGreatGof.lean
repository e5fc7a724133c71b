/- The reference's rational numbers: Inv. -/
import Derived.Test.YtidginchkjhobaaGreatGrC
set_option maxHeartbeats 16000000
set_option maxRecDepth 100000
namespace Go.Ev
open Go.Proofs.YtidginchkjhobaaGreat
theorem Jj {B}(a:Std B){c}{x}(m:Rw c x)(j:Sq x)(h0:x≠0):∃e,Xv B 137 [.agg c] (.Wd [.agg e,.one (La0 0)])/\Rw e x⁻¹:=by
 obtain⟨t,s,u,m2,rfl,b,d⟩:=m;have i:x.num≠0:=fun h=>h0 (Rat.num_eq_zero.1 h)
 obtain⟨e,l,f⟩:=Dz a d b (aS (by have:=j.qM;omega)) (aS (by have:=j.wD;omega)) i;rw[<-Rat.inv_def]at f;have g:=f;obtain⟨o,p,q,r,k,-,-⟩:=g;subst k;refine⟨_,Xv.of (a.Wa _ _ rfl) ((l.Xk.and a.Xk).mono fun E K ⟨e1,n⟩=> ?_),f⟩;simp+decide only[Xo,Xs,reduceIte,Nat.reduceAdd,x137,n,X3,e1]
def Ue (ps:N'):Z':=ps.map fun p=>[p,.Xp]
theorem Vr (a):(Ue a).length=a.length:=by simp[Ue]
theorem au {a:N'}{i:Nat}{p:PL}(h:a[i]? =some p):(Ue a)[i]? =some [p,.Xp]:=by simp[Ue,h]
abbrev Ug (v:Nat)(ps:N'):Xx:=⟨false,v,2,pc (Ue ps),false,117⟩
theorem kU (v)(a)(p):Ug v (a++[p])=⟨false,v,2,pc (Ue a)++[[.p p,.p .Xp]],false,117⟩:=by simp[Ug,Ue,pc]
theorem xn {B}(f:Std B){c}{x}(i:Rw c x){p q}(h:Xv B 17 [.agg c,.one p] (.one q)):Xv B 138 [.agg c,.agg [p,.Xp]] (.agg [q,.Xp]):=by
 obtain⟨n,a,d,b,rfl⟩:=i.len;refine Xv.of (f.Wa _ _ rfl) ((h.Xk.and (f.Xk.and (XT.ge 1))).mono fun E K ⟨e1,e,j⟩=> ?_);rcases K with _|K;omega;simp+decide only[Xo,Xs,Vv,reduceIte,Nat.reduceAdd,x138,x138_1,Xb,e,X3,e1]
theorem br {B}(d:Std B){a q b x y}(g:Xv B 11 [.one q,.one b] (.one x))(h:Xv B 12 [.one a,.one x] (.one y)){e}(i:Sl e []):Xv B 134 [.agg [a,e],.one q,.agg [b,.Xp]] (.agg [y,.Xp]):=by
 refine Xv.of (d.Wa _ _ rfl) ((g.Xk.and (h.Xk.and (d.Xk.and (XT.ge 1)))).mono fun E K ⟨e1,e2,c,k⟩=> ?_);rcases K with _|K;omega;have j:=i.len;simp+decide only[Xo,Xs,Vv,reduceIte,Nat.reduceAdd,x134,x134_1,Xb,c,X3,e1,e2,j]
theorem Rk {B}(d:Std B){p h}{o}(q:SA h o)(k:Vq o)(g:o.length<1000000){f}(l:PQ p f)(j:f.length<100000){s}(m:XB o f=some s):Xv B 86 [.agg [p,.Xp],.one h] (.agg (mo s.2)):=by
 obtain⟨c,b,i,a⟩:=T9 d q k g l j;rw[m]at a;obtain⟨rfl,a⟩:=a;obtain⟨u,v,w,x,rfl⟩:=a.eight;have n:=a.jP.1;have r:(Xu s.2).take 8=Xu s.2:=Ze (by rw[Xc];omega);have t:(Xu s.2).drop 8=[]:=Zo (by rw[Xc];omega);refine Xv.of (d.Wa _ _ rfl) ((i.Xk.and d.Xk).mono fun E K ⟨e1,e⟩=> ?_);simp+decide only[Xo,Xs,Vv,reduceIte,Nat.reduceAdd,x86,e,X3,e1,r,n,Wj,Xc,Wc]
theorem kC {B}(a:Std B){p r}{o}(I:SA r o)(D:Vq o)(i:o.length<1000000){f}(n:PQ p f)(z:f.length<100000)(G:Sz f){s}(F:XB o f=some s)(h0:s.1≠0)(y:Sq s.1⁻¹)(j:Sq s.1):∃q,Xv B 89 [.agg [p,.Xp],.one r] (.agg [q,.Xp])/\PQ q (X2 s.1⁻¹ f):=by
 obtain⟨c,b,t,d⟩:=T9 a I D i n z;rw[F]at d;obtain⟨rfl,d⟩:=d;obtain⟨M,N,O,P,rfl,u,A⟩:=d;obtain⟨e,v,g⟩:=Jj a u j h0;obtain⟨q,w,m⟩:=jk a g y n G (by omega);have x:=xn a g w;have C:s.1⁻¹≠0:=fun k=>h0 (by rw[<-Rat.inv_inv s.1,k];exact Rat.inv_zero)
 rw[if_neg C]at m;refine⟨q,?_,m⟩;obtain⟨e1,e2,l,L,rfl⟩:=g.len;have H:=A.1;have Q:(Xu s.2).take 8=Xu s.2:=Ze (by rw[Xc];omega);have J:(Xu s.2).drop 8=[]:=Zo (by rw[Xc];omega);refine Xv.of (a.Wa _ _ rfl) ((t.Xk.and (v.Xk.and (x.Xk.and a.Xk))).mono fun E K ⟨e1,e2,l,h⟩=> ?_);simp+decide only[Xo,Xs,Vv,reduceIte,Nat.reduceAdd,x89,h,X3,e1,e2,l,H,Wj,Xc]
theorem uC {B}(a:Std B){p g}{o}(k:SA g o)(i:Vq o)(e:o.length<1000000)(j:PQ p []):Xv B 89 [.agg [p,.Xp],.one g] (.agg [p,.Xp]):=by
 obtain⟨c,b,h,f⟩:=T9 a k i e j (by simp);simp only[XB]at f;obtain⟨rfl,rfl⟩:=f;refine Xv.of (a.Wa _ _ rfl) ((h.Xk.and a.Xk).mono fun E K ⟨e1,d⟩=> ?_);simp+decide only[Xo,Xs,Vv,reduceIte,Nat.reduceAdd,x89,d,X3,e1]
theorem jy {B}(b:Std B){R}(h:Ta R):∃r a,Xv B 9 [.agg [R]] (.one r)/\PQ r a/\G2 1 6 2 a:=by
 obtain⟨r,a,e,f,g⟩:=tS b h (d:=1) (tm:=2) (by omega) (by omega);refine⟨r,a,Xv.of (b.Wa _ _ rfl) ((e.Xk.and b.Xk).mono fun E K ⟨e1,c⟩=> ?_),f,g⟩;simp only[Xo,Xs,reduceIte,Nat.reduceEqDiff,Nat.reduceLeDiff,Zw,x9,c,X3,e1]
inductive vq (E:Xa)(d tm:Nat):Z'->N'->Prop
 |nil:vq E d tm [] []
 |cons {R r:PL} {ls:Z'} {rs:N'} (h1:E.pure 34 [.agg [R],.one (La0 2),.one (La0 d),.one (La0 tm)]=some (.one r)) (h:vq E d tm ls rs):vq E d tm ([R]::ls) (r::rs)
theorem jD (a)(r):pc (Xf a)++[[.p r]]=pc (Xf (a++[r])):=by simp[pc,Xf]
theorem Hh {E}{K}(x:E.mode=md){L}{a}(q:Sl L a){d z g}(N:g<1000):∀rest m,vq E d z rest m->
  ∀i k v o G,(a.take g).drop i=rest->i+rest.length=(a.take g).length->o.length=i->rest.length<k->
  ∃b f s,Xb E K 0 [0,1,2,3,4,11,12] x33_1 k ⟨[(0,La4 L),(1,La1 2),(2,La1 d),(3,La1 z),(4,La1 g),(11,.one (.own 0 v 0 o.length)),(12,La1 i)],⟨false,v,1,pc (Xf o),false,33⟩::G⟩=
   some (.exit 0,⟨b,⟨false,s,1,pc (Xf (o++m)),false,33⟩::f⟩)/\Xi b 11=some (.one (.own 0 s 0 (o++m).length)):=by
 intro rest m h;induction h with
 |nil=>
  intro i k v o G _ w O B;rcases k with _|k;omega;simp only[Zr,ZU,Z4]at w;have :∃b f,Xb E K 0 [0,1,2,3,4,11,12] x33_1 (k+1) ⟨[(0,La4 L),(1,La1 2),(2,La1 d),(3,La1 z),(4,La1 g),(11,.one (.own 0 v 0 o.length)),(12,La1 i)],⟨false,v,1,pc (Xf o),false,33⟩::G⟩=
   some (.exit 0,⟨b,⟨false,v,1,pc (Xf o),false,33⟩::f⟩)/\Xi b 11=some (.one (.own 0 v 0 o.length)):=by
   by_cases c:i<a.length
   ·have J:¬i<g:=by omega
    apply Cn
    ·rw[Xb];simp only[Xo,Xs,reduceIte,Nat.reduceEqDiff,x33_1,q.len,c,J];rfl
    ·simp only[Xo,reduceIte,Nat.reduceEqDiff]
   ·apply Cn
    ·rw[Xb];simp only[Xo,Xs,reduceIte,Nat.reduceEqDiff,x33_1,q.len,c];rfl
    ·simp only[Xo,reduceIte,Nat.reduceEqDiff]
  obtain⟨b,f,n,t⟩:=this;exact⟨b,f,v,by simpa using n,by simpa using t⟩
 |@cons R r S m I h P=>
  intro i k v o G u w O B;rcases k with _|k;omega;simp only[Zj,Z4]at w B;have c:i<a.length:=by omega
  have e:i<g:=by omega
  obtain⟨A,C⟩:=Xh u;have j:a[i]? =some [R]:=by rw[List.getElem?_take,if_pos e]at A;exact A
  have l:=fun(M:HF) (Q:IntKind)=>q.idx (h:=M) (k:=Q) (sz:=1) j rfl
  have D:Xd .i64 (.ofNat (i+1))=.ofNat (i+1):=wrap_i64 (by omega);have F:(o.length+1)*24<=lim:=by unfold lim;omega
  have H:o.length+1<=9223372036854775807:=by omega
  obtain⟨b,f,s,n,t⟩:=P (i+1) k (v+1) (o++[r]) (G++[⟨false,0,1,[[.p r]],false,33⟩]) C (by rw[Z4];omega) (by simp;omega) (by omega);refine⟨b,f,s,?_,by simpa using t⟩;rw[Zp,ZW,Zn,ZK]at n;rw[Xb];simp only[Xo,Vv,rq,Xs,VD,reduceIte,Nat.reduceEqDiff,Nat.reduceLT,x33_1,q.len,c,e,l,x,X3,I,D,F,H,WB,Xt,jD];exact n
theorem nP {B}(j:Std B){d g}(k:d<100)(b:g<1000):∀{ls},(∀c∈ls,∃R,c=[R]/\Ta R)->∃e a,(XT B fun E _=>vq E d g ls e)/\VV e a/\(∀f∈a,G2 d (g*3) g f)/\e.length=ls.length
 |[],_=>⟨[],[],XT.of fun _ _=>.nil,.nil,(fun _ h=>by cases h),rfl⟩
 |c::ls,h=>by
  obtain⟨R,rfl,q⟩:=h c (Zc ..);obtain⟨r,v,l,m,t⟩:=tS j q k b;obtain⟨e,a,n,o,u,p⟩:=nP j k b fun c s=>h c (Za _ s)
  exact⟨r::e,v::a,(n.and l.Xk).mono fun E K ⟨e1,e2⟩=>.cons e2 e1,.cons m o,(fun f i=>by rcases Zk.1 i with rfl|i;exact t;exact u f i),by simp[p]⟩
def iy (L:PL):Prop:=∃ls,Sl L ls/\∀c∈ls,∃R,c=[R]/\Ta R
theorem Em {B}(i:Std B){L}(s:iy L){d tm mx}(u:d<100)(n:tm<1000)(l:mx<1000):
  ∃a b,Xv B 33 [.one L,.one (La0 2),.one (La0 d),.one (La0 tm),.one (La0 mx)] (.one (.Xl (Xf a)))/\VV a b/\(∀f∈b,G2 d (tm*3) tm f)/\a.length<=mx:=by
 obtain⟨g,x,j⟩:=s;obtain⟨a,b,q,r,e,A⟩:=nP i u n (ls:=g.take mx) fun c t=>j c (List.mem_of_mem_take t)
 have p:(g.take mx).length<=mx:=by rw[Z4];omega
 refine⟨a,b,Xv.of (i.Wa _ _ rfl) ((q.and (i.Xk.and (XT.ge (mx+1)))).mono fun E K ⟨e1,k,C⟩=> ?_),r,e,by omega⟩;obtain⟨z,y,D,o,e⟩:=Hh (K:=K) k x l (g.take mx) a e1 0 K 0 [] [] (by simp) (by simp) rfl (by omega);have w:(pc (Xf a)).take a.length=pc (Xf a):=WT (Xf a) (by rw[Xt];exact Zf _);have v:=fun h=>Vb 5 h (Xf a)
 have m:pc (Xf [])=[]:=rfl;rw[m]at o;simp only[ZB,Zr]at o e;simp only[Xo,Xs,reduceIte,Nat.reduceEqDiff,Nat.reduceLeDiff,Nat.reduceAdd,x33,o,e,w,v,WB,Xt,Zf]
theorem AS {B}(c:Std B){L k}(l:iy L):
  ∃b a,Xv B 8 [.agg [L,k]] (.one (.Xl (Xf b)))/\VV b a/\(∀f∈a,G2 2 9 3 f)/\b.length<=3:=by
 obtain⟨b,a,g,h,i,j⟩:=Em c l (d:=2) (tm:=3) (mx:=3) (by omega) (by omega) (by omega);refine⟨b,a,Xv.of (c.Wa _ _ rfl) ((g.Xk.and c.Xk).mono fun E K ⟨e1,e⟩=> ?_),h,i,j⟩;simp only[Xo,Xs,reduceIte,Nat.reduceEqDiff,Nat.reduceLeDiff,Nat.reduceAdd,Zw,x8,e,X3,e1]
theorem KE {n}(h:n<1000000):(n+1)*48<=lim/\(n+1)*24<=lim/\n+1<=9223372036854775807:=by grind [lim]
theorem Rq (a):(pc (Ue a)).length=a.length:=by simp[pc,Ue]
theorem qd (a):(pc (Xf a)).length=a.length:=by simp[pc,Xf]
theorem rN {E}{h}{f}{a}{id XW c}{b}{d}{G}{r}(n:TH a=some (id,XW,c))(q:Qr a=true)(j:h id=some b)(p:b.XW=XW)(i:b.mp=false)(g:b.fz=false)(o:b.ch.all Wi=true)(l:E.heap f (S8 a) [b]=some (d,b::G))(k:XX (Xj (b::G)) d=some r)(m:(Rj (Xj (b::G)) d).contains 0=false):WX E h f a=some ⟨inj r,[],[(id,b)],[id]⟩:=by
 unfold WX;have e:Nat.beq b.XW XW=true:=by grind [Yw]
 grind
theorem mT {E}{h}{f}{a}{d}{G}{r}(e:TH a=none)(g:a.all RC=true)(c:E.heap f a []=some (d,G))(b:XX (Xj G) d=some r):WX E h f a=some ⟨inj r,[],[],[]⟩:=by grind [WX]
theorem NG:∀a,(pc (Ue a)).all Wi=true
 |[]=>rfl
 |p::a=>by
  have:=NG a;simp only[pc,Ue,Zt,List.all_cons,List.map_map]at this⊢;rw[this];rfl
abbrev TF (v:Nat)(o:N'):Xx:=⟨false,v,1,pc (Xf o),false,33⟩
theorem zk {H}{id}{a}{v}(h:H[id]? =some (TF v a)):XX (Xj H) (.one (.own id v 0 a.length))=some (.one (.Xl (Xf a))):=by
 have c:(pc (Xf a)).take a.length=pc (Xf a):=WT (Xf a) (by grind [Xt]);have b:=fun h=>Vb 5 h (Xf a)
 simp only[Xo,Xs,h,c,b,qd,Zf]
theorem Hq {H}{id}{a}{v}(h:H[id]? =some (TF v a)):Rj (Xj H) (.one (.own id v 0 a.length))=[id]:=by
 have c:(pc (Xf a)).take a.length=pc (Xf a):=WT (Xf a) (by grind [Xt]);have b:=fun n h=>Nl n h (Xf a)
 simp only[Xo,h,c,b]
theorem Bx {E:Xa}{K:Nat}(y:E.mode=md){L:PL}{a:N'}(l:Sl L (Ue a))(H:a.length<100000):∀(rest:N') (i k:Nat) (o:N') (G:V'),a.drop i=rest->i+rest.length=a.length->o.length=i->rest.length<k->
  ∃c m,Xb E K 0 [0,3,4] x44_1 k ⟨[(0,La4 L),(3,.one (.own 0 i 0 o.length)),(4,La1 i)],TF i o::G⟩=
   some (.exit 0,⟨c,TF a.length (o++rest)::m⟩)/\Xi c 3=some (.one (.own 0 a.length 0 (o++rest).length)):=by
 intro rest;induction rest with
 |nil=>
  intro i k o G _ d z q;rcases k with _|k;omega;simp only[Zr,ZU]at d;subst d;have b:=l.len;rw[ZJ];have :∃c,Xb E K 0 [0,3,4] x44_1 (k+1) ⟨[(0,La4 L),(3,.one (.own 0 a.length 0 o.length)),(4,La1 a.length)],TF a.length o::G⟩=some (.exit 0,⟨c,TF a.length o::G⟩)/\Xi c 3=some (.one (.own 0 a.length 0 o.length)):=by
   apply VW
   ·rw[Xb];simp only[Xo,Xs,reduceIte,Nat.reduceEqDiff,x44_1,b,Vr,Zx];rfl
   ·simp only[Xo,reduceIte,Nat.reduceEqDiff]
  grind
 |cons p rest A=>
  intro i k o G w d z q;rcases k with _|k;omega;simp only[Zj]at d q;obtain⟨v,u⟩:=Xh w;have g:i<a.length:=by omega
  have b:=l.len;have B:=fun(x:HF) (C:IntKind)=>l.idx (h:=x) (k:=C) (sz:=2) (au v) rfl
  have r:Xd .i64 (.ofNat (i+1))=.ofNat (i+1):=wrap_i64 (by omega);obtain⟨-,s,t⟩:=KE (n:=o.length) (by omega);have this:∃f,Xb E K 0 [0,3,4] x44_1 (k+1) ⟨[(0,La4 L),(3,.one (.own 0 i 0 o.length)),(4,La1 i)],TF i o::G⟩=Xb E K 0 [0,3,4] x44_1 k ⟨[(0,La4 L),(3,.one (.own 0 (i+1) 0 (o++[p]).length)),(4,La1 (i+1))],TF (i+1) (o++[p])::f⟩:=by
   simp only[TF];rw[<-jD];apply Exists.intro;rw[Xb];simp+decide only[Xo,rq,Xs,reduceIte,Nat.reduceAdd,x44_1,b,Vr,g,B,r,s,t,qd,Zn];rfl
  obtain⟨f,e⟩:=this;obtain⟨c,m,D,F⟩:=A (i+1) k (o++[p]) f u (by omega) (by simp;omega) (by omega)
  grind
theorem Uu.eE {B}{f}{ad}{H}{b}{P:DV->V'->Prop}(i:B.X f=some b)(h:XT B fun E K=>∃d a,VN E K b ad H=some (d,a)/\P d a):∃d a,Uu B f ad H d a/\P d a:=by
 obtain⟨N,g⟩:=h;obtain⟨d,a,c,e⟩:=g N N (Zf _) (Zf _);refine⟨d,a,⟨N,N+1,?_⟩,e⟩;show(match B.X f with
  |some b=>VN (B.E N N) N b ad H
  |none=>(B.E N N).heap f ad H)=some (d,a)
 rw[i];exact c
theorem gh {B}(h:Std B){L}{a}(m:Sl L (Ue a))(l:a.length<100000):∃G,Uu B 44 [La4 L] [] (.one (.own 0 a.length 0 a.length)) (TF a.length a::G):=by
 obtain⟨d,g,k,G,rfl,rfl⟩:=Uu.eE (f:=44) (ad:=[La4 L]) (H:=[]) (P:=fun d g=>∃G,d=.one (.own 0 a.length 0 a.length)/\g=TF a.length a::G) (h.Wa _ _ rfl) ((h.Xk.and (XT.ge (a.length+1))).mono fun E K ⟨b,o⟩=>by
  obtain⟨n,j,e,i⟩:=Bx (K:=K) b m l a 0 K [] [] rfl (by omega) rfl (by omega);rw[ZB]at e i;have c:pc (Xf [])=[]:=rfl;simp only[TF,c,Zr]at e;refine⟨_,_,?_,j,rfl,rfl⟩;simp+decide only[Xo,Xs,Vv,reduceIte,x44,e,i])
 exact⟨G,k⟩
theorem xp {E}{K}(u:E.mode=md){a}{v}(B:a.length<100000):∀rest i k o G,a.drop i=rest->i+rest.length=a.length->o.length=i->rest.length<k->
  ∃b h,Xb E K 0 [0,3,4] x44_1 k ⟨[(0,.one (.own 0 v 0 a.length)),(3,.one (.own 1 i 0 o.length)),(4,La1 i)],Ug v a::TF i o::G⟩=
   some (.exit 0,⟨b,Ug v a::TF a.length (o++rest)::h⟩)/\Xi b 3=some (.one (.own 1 a.length 0 (o++rest).length)):=by
 intro rest;induction rest with
 |nil=>
  intro i k o G _ c w j;rcases k with _|k;omega;simp only[Zr,ZU]at c;subst c;rw[ZJ];have :∃b,Xb E K 0 [0,3,4] x44_1 (k+1) ⟨[(0,.one (.own 0 v 0 a.length)),(3,.one (.own 1 a.length 0 o.length)),(4,La1 a.length)],Ug v a::TF a.length o::G⟩=some (.exit 0,⟨b,Ug v a::TF a.length o::G⟩)/\Xi b 3=some (.one (.own 1 a.length 0 o.length)):=by
   apply VW
   ·rw[Xb];simp only[Xo,Xs,reduceIte,Nat.reduceEqDiff,x44_1,Zx];rfl
   ·simp only[Xo,reduceIte,Nat.reduceEqDiff]
  grind
 |cons p rest x=>
  intro i k o G t c w j;rcases k with _|k;omega;simp only[Zj]at c j;obtain⟨s,r⟩:=Xh t;have f:i<a.length:=by omega
  have y:(pc (Ue a))[i]? =some [.p p,.p .Xp]:=by simp[pc,Ue,s]
  have l:Xd .i64 (.ofNat (i+1))=.ofNat (i+1):=wrap_i64 (by omega);obtain⟨-,m,q⟩:=KE (n:=o.length) (by omega);have this:∃d,Xb E K 0 [0,3,4] x44_1 (k+1) ⟨[(0,.one (.own 0 v 0 a.length)),(3,.one (.own 1 i 0 o.length)),(4,La1 i)],Ug v a::TF i o::G⟩=Xb E K 0 [0,3,4] x44_1 k ⟨[(0,.one (.own 0 v 0 a.length)),(3,.one (.own 1 (i+1) 0 (o++[p]).length)),(4,La1 (i+1))],Ug v a::TF (i+1) (o++[p])::d⟩:=by
   simp only[TF];rw[<-jD];apply Exists.intro;rw[Xb];simp+decide only[Xo,rq,Xs,reduceIte,Nat.reduceAdd,x44_1,f,y,l,m,q,qd,Zn];rfl
  obtain⟨d,e⟩:=this;obtain⟨b,h,z,A⟩:=x (i+1) k (o++[p]) d r (by omega) (by simp;omega) (by omega)
  grind
theorem qz {B}(h:Std B){a}{v}(l:a.length<100000):∃G,Uu B 44 [.one (.own 0 v 0 a.length)] [Ug v a] (.one (.own 1 a.length 0 a.length)) (Ug v a::TF a.length a::G):=by
 obtain⟨d,g,k,G,rfl,rfl⟩:=Uu.eE (f:=44) (ad:=[.one (.own 0 v 0 a.length)]) (H:=[Ug v a]) (P:=fun d g=>∃G,d=.one (.own 1 a.length 0 a.length)/\g=Ug v a::TF a.length a::G) (h.Wa _ _ rfl) ((h.Xk.and (XT.ge (a.length+1))).mono fun E K ⟨b,n⟩=>by
  obtain⟨m,j,e,i⟩:=xp (K:=K) b (v:=v) l a 0 K [] [] rfl (by omega) rfl (by omega);rw[ZB]at e i;have c:pc (Xf [])=[]:=rfl;simp only[TF,c,Zr]at e;refine⟨_,_,?_,j,rfl,rfl⟩;simp+decide only[Xo,Xs,Vv,reduceIte,Nat.reduceAdd,x44,e,i])
 exact⟨G,k⟩
theorem uA {B}(c:Std B){L}{a}(f:Sl L (Ue a))(d:a.length<100000):XT B fun E _=>∀h,WX E h 44 [La4 L]=some ⟨La4 (.Xl (Xf a)),[],[],[]⟩:=by
 obtain⟨G,b⟩:=gh c f d;exact b.Xk.mono fun E K e h=>mT rfl rfl e (zk rfl)
theorem qy {B}(c:Std B){a}{v}(f:a.length<100000):XT B fun E _=>∀h,h 0=some (Ug v a)->WX E h 44 [.one (.own 0 v 0 a.length)]=some ⟨La4 (.Xl (Xf a)),[],[(0,Ug v a)],[0]⟩:=by
 obtain⟨G,b⟩:=qz c (v:=v) f;exact b.Xk.mono fun E K e h d=>rN rfl rfl d rfl rfl rfl (NG a) e (zk (id:=1) rfl) (by grind [Hq])
theorem RR:∀a,(pc (Xf a)).all Wi=true
 |[]=>rfl
 |p::a=>by
  have:=RR a;simp only[pc,Xf,Zt,List.all_cons,List.map_map]at this⊢;rw[this];rfl
theorem qx {B}(c:Std B){L}{a}(f:Sl L (Ue a))(d:a.length<100000):XT B fun E _=>∀H,UL E 44 [La4 L] H=some (.one (.own H.length a.length 0 a.length),H++[TF a.length a]):=by
 obtain⟨G,b⟩:=gh c f d;exact b.Xk.mono fun E K e H=>by
  simp_all [UL,RR,TH,RC]
def Un {α:Type}:List α->Nat->Nat->List α
 |[],_,_=>[]
 |p::ps,i,at'=>if i=at' then Un ps (i+1) at' else p::Un ps (i+1) at'
theorem tF {c:Type}:∀(b:List c) (i a:Nat),(Un b i a).length<=b.length
 |[],_,_=>Zf _
 |p::b,i,a=>by
  have:=tF b (i+1) a
  grind [Un]
abbrev Jv (L:PL)(a v n i:Nat):List (Nat×DV):=[(0,La4 L),(1,La1 a),(5,.one (.own 0 v 0 n)),(6,La1 i)]
theorem xr {E:Xa}{K:Nat}(J:E.mode=md){L:PL}{b:N'}(t:Sl L (Ue b))(P:b.length<100000){a:Nat}:∀(rest:N') (i k v:Nat) (o:N') (G:V'),b.drop i=rest->i+rest.length=b.length->o.length<=i->rest.length<k->
  ∃f r q,Xb E K 0 [0,1,5,6] x83_1 k ⟨Jv L a v o.length i,Ug v o::G⟩=
   some (.exit 0,⟨f,Ug q (o++Un rest i a)::r⟩)/\Xi f 5=some (.one (.own 0 q 0 (o++Un rest i a).length)):=by
 intro rest;induction rest with
 |nil=>
  intro i k v o G _ m M x;rcases k with _|k;omega;simp only[Zr,ZU]at m;subst m;have c:=t.len;have z:Un ([]:N') b.length a=[]:=rfl;rw[z,ZJ];have :∃f,Xb E K 0 [0,1,5,6] x83_1 (k+1) ⟨Jv L a v o.length b.length,Ug v o::G⟩=some (.exit 0,⟨f,Ug v o::G⟩)/\Xi f 5=some (.one (.own 0 v 0 o.length)):=by
   apply VW
   ·rw[Xb];simp only[Xo,Xs,reduceIte,Nat.reduceEqDiff,x83_1,c,Vr,Zx];rfl
   ·simp only[Xo,reduceIte,Nat.reduceEqDiff]
  grind
 |cons p rest y=>
  intro i k v o G H m M x;rcases k with _|k;omega;simp only[Zj]at m x;obtain⟨F,w⟩:=Xh H;have l:i<b.length:=by omega
  have c:=t.len;have N:=fun(I:HF) (O:IntKind)=>t.idx (h:=I) (k:=O) (sz:=2) (au F) rfl
  have u:Xd .i64 (.ofNat (i+1))=.ofNat (i+1):=wrap_i64 (by omega);obtain⟨A,-,B⟩:=KE (n:=o.length) (by omega);by_cases g:i=a
  ·subst g;have e1:Un (p::rest) i i=Un rest (i+1) i:=by simp[Un]
   have this:∃d,Xb E K 0 [0,1,5,6] x83_1 (k+1) ⟨Jv L i v o.length i,Ug v o::G⟩=Xb E K 0 [0,1,5,6] x83_1 k ⟨Jv L i v o.length (i+1),Ug v o::d⟩:=by
    apply Exists.intro;rw[Xb];simp+decide only[Xo,Xs,reduceIte,x83_1,c,Vr,l,u];rfl
   obtain⟨d,e⟩:=this;obtain⟨f,r,q,C,D⟩:=y (i+1) k v o d w (by omega) (by omega) (by omega)
   grind
  ·have e1:o++Un (p::rest) i a=(o++[p])++Un rest (i+1) a:=by simp[Un,g]
   have j:¬i=a:=g;have this:∃d,Xb E K 0 [0,1,5,6] x83_1 (k+1) ⟨Jv L a v o.length i,Ug v o::G⟩=Xb E K 0 [0,1,5,6] x83_1 k ⟨Jv L a (v+1) (o++[p]).length (i+1),Ug (v+1) (o++[p])::d⟩:=by
    rw[kU];apply Exists.intro;rw[Xb];simp+decide only[Xo,rq,Xs,reduceIte,Nat.reduceAdd,x83_1,c,Vr,l,j,N,u,A,B,Rq,Zn];rfl
   obtain⟨d,e⟩:=this;obtain⟨f,r,q,C,D⟩:=y (i+1) k (v+1) (o++[p]) d w (by omega) (by simp;omega) (by omega)
   grind
theorem gj {B}(f:Std B){L}{b}(l:Sl L (Ue b))(j:b.length<100000)(a):Xv B 83 [.one L,.one (La0 a)] (.one (.Xl (Ue (Un b 0 a)))):=by
 refine Xv.of (f.Wa _ _ rfl) ((f.Xk.and (XT.ge (b.length+1))).mono fun E K ⟨c,o⟩=> ?_);obtain⟨n,m,p,e,g⟩:=xr (K:=K) c l j (a:=a) b 0 K 0 [] [] rfl (by omega) (by simp) (by omega);rw[ZB]at e g;generalize Un b 0 a=qs at *;have k:(pc (Ue qs)).take qs.length=pc (Ue qs):=WT (Ue qs) (by grind [Vr]);have i:=fun h=>Vb 5 h (Ue qs)
 have d:pc (Ue [])=[]:=rfl;simp only[Jv,Ug,d,Zr]at e;simp+decide only[Xo,Xs,reduceIte,Nat.reduceAdd,x83,e,g,k,i,Rq,Zf]
inductive Pe (E:Xa)(lo:PL):N'->N'->Prop
 |nil:Pe E lo [] []
 |skip {p:PL} {ls qs:N'} (sl:Sl p []) (h:Pe E lo ls qs):Pe E lo (p::ls) qs
 |new {p q:PL} {es:Z'} {ls qs:N'} (sl:Sl p es) (he:0<es.length) (hm:E.pure 89 [.agg [p,.Xp],.one lo]=some (.agg [q,.Xp])) (h:Pe E lo ls qs):Pe E lo (p::ls) (q::qs)
abbrev Jr (L lo:PL)(v n i:Nat):List (Nat×DV):=[(0,La4 L),(1,La4 lo),(5,.one (.own 0 v 0 n)),(6,La1 i)]
theorem By {E}{K}(A:E.mode=md){L l}{b}(s:Sl L (Xf b))(S:b.length<100000):∀{rest c},Pe E l rest c->∀i k o G,b.drop i=rest->i+rest.length=b.length->o.length<=i->rest.length<k->
  ∃f u,Xb E K 0 [0,1,5,6] x47_1 k ⟨Jr L l o.length o.length i,Ug o.length o::G⟩=
   some (.exit 0,⟨f,Ug (o++c).length (o++c)::u⟩)/\Xi f 5=some (.one (.own 0 (o++c).length 0 (o++c).length)):=by
 intro rest c h;induction h with
 |nil=>
  intro i k o G _ m H t;rcases k with _|k;omega;simp only[Zr,ZU]at m;subst m;have a:=s.len;rw[ZJ];have :∃f,Xb E K 0 [0,1,5,6] x47_1 (k+1) ⟨Jr L l o.length o.length b.length,Ug o.length o::G⟩=some (.exit 0,⟨f,Ug o.length o::G⟩)/\Xi f 5=some (.one (.own 0 o.length 0 o.length)):=by
   apply VW
   ·rw[Xb];simp only[Xo,Xs,reduceIte,Nat.reduceEqDiff,x47_1,a,Xt,Zx];rfl
   ·simp only[Xo,reduceIte,Nat.reduceEqDiff]
  grind
 |@skip p Q c F h B=>
  intro i k o G y m H t;rcases k with _|k;omega;simp only[Zj]at m t;obtain⟨x,w⟩:=Xh y;have g:i<b.length:=by omega
  have a:=s.len;have j:=F.len;have C:=fun(z:HF) (D:IntKind)=>s.idx (h:=z) (k:=D) (sz:=1) (XK x) rfl
  have v:Xd .i64 (.ofNat (i+1))=.ofNat (i+1):=wrap_i64 (by omega);have this:∃d,Xb E K 0 [0,1,5,6] x47_1 (k+1) ⟨Jr L l o.length o.length i,Ug o.length o::G⟩=Xb E K 0 [0,1,5,6] x47_1 k ⟨Jr L l o.length o.length (i+1),Ug o.length o::d⟩:=by
   apply Exists.intro;rw[Xb];simp+decide only[Xo,Xs,reduceIte,x47_1,a,j,Xt,g,C,v];rfl
  obtain⟨d,e⟩:=this;obtain⟨f,u,M,N⟩:=B (i+1) k o d w (by omega) (by omega) (by omega)
  grind
 |@new p q R Q c F O P h B=>
  intro i k o G y m H t;rcases k with _|k;omega;simp only[Zj]at m t;obtain⟨x,w⟩:=Xh y;have g:i<b.length:=by omega
  have a:=s.len;have j:=F.len;have C:=fun(z:HF) (D:IntKind)=>s.idx (h:=z) (k:=D) (sz:=1) (XK x) rfl
  have v:Xd .i64 (.ofNat (i+1))=.ofNat (i+1):=wrap_i64 (by omega);obtain⟨I,-,J⟩:=KE (n:=o.length) (by omega);have this:∃d,Xb E K 0 [0,1,5,6] x47_1 (k+1) ⟨Jr L l o.length o.length i,Ug o.length o::G⟩=Xb E K 0 [0,1,5,6] x47_1 k ⟨Jr L l (o.length+1) (o++[q]).length (i+1),Ug (o.length+1) (o++[q])::d⟩:=by
   rw[kU];apply Exists.intro;rw[Xb];simp+decide only[Xo,Vv,rq,Xs,reduceIte,Nat.reduceAdd,x47_1,a,j,O,P,Xt,g,C,A,X3,v,I,J,Rq,Zn];rfl
  obtain⟨d,e⟩:=this;obtain⟨f,u,M,N⟩:=B (i+1) k (o++[q]) d w (by omega) (by simp;omega) (by omega)
  grind
theorem uB {B}(k:Std B){L i}{b a}(r:Sl L (Xf b))(q:b.length<100000)(h:XT B fun E _=>Pe E i b a):∃G,Uu B 47 [La4 L,La4 i] [] (.one (.own 0 a.length 0 a.length)) (Ug a.length a::G):=by
 obtain⟨d,j,o,G,rfl,rfl⟩:=Uu.eE (f:=47) (ad:=[La4 L,La4 i]) (H:=[]) (P:=fun d j=>∃G,d=.one (.own 0 a.length 0 a.length)/\j=Ug a.length a::G) (k.Wa _ _ rfl) ((h.and (k.Xk.and (XT.ge (b.length+1)))).mono fun E K ⟨n,c,t⟩=>by
  obtain⟨s,m,g,l⟩:=By (K:=K) c r q n 0 K [] [] rfl (by omega) (by simp) (by omega);rw[ZB]at g l;have e:pc (Ue [])=[]:=rfl;simp only[Jr,Ug,e,Zr]at g;refine⟨_,_,?_,m,rfl,rfl⟩;simp+decide only[Xo,Xs,Vv,reduceIte,Nat.reduceAdd,x47,g,l,Ug])
 exact⟨G,o⟩
theorem R6 {a:N'}{i:Nat}{p:PL}(h:a[i]? =some p):(pc (Ue a))[i]? =some [.p p,.p .Xp]:=by simp[pc,Ue,h]
abbrev HU (lo:PL)(v n k i:Nat):List (Nat×DV):=[(0,.one (.own 0 v 0 n)),(1,La4 lo),(5,La1 k),(6,La1 i)]
structure Ky (E:Xa)(lo p q:PL)(m n g:P'):Prop where
 m8:m.length=8
 n8:n.length=8
 g8:g.length=8
 h1:E.pure 86 [.agg [p,.Xp],.one lo]=some (.agg (mo m))
 h2:E.pure 86 [.agg [q,.Xp],.one lo]=some (.agg (mo n))
 h3:E.pure 87 [.agg (mo m),.agg (mo n)]=some (.agg (mo g))
theorem HT {E:Xa}{K k0 k i:Nat}(f:E.mode=md){j p q:PL}{a:N'}(s:a[i]? =some p)(t:a[k]? =some q)(c:i<k)(Y:a.length<100000){m n g:P'}(R:Ky E j p q m n g)(h:g=Ut)(G:V'):
  ∃N,Xb E K 0 [0,1,5,6] x46_1 (k0+1) ⟨HU j a.length a.length k i,Ug a.length a::G⟩=Xb E K 0 [0,1,5,6] x46_1 k0 ⟨HU j a.length a.length k (i+1),Ug a.length a::N⟩:=by
 obtain⟨T,U,S,l,o,b⟩:=R;have V:=R6 s;have W:=R6 t;have d:i<a.length:=(Zg.mp s).1;have e:k<a.length:=(Zg.mp t).1;have r:=U3 S (n:=Ut) rfl;have P:Xd .i64 (.ofNat (i+1))=.ofNat (i+1):=wrap_i64 (by omega);have Z:(Xu g).take 8=Xu g:=Ze (by rw[Xc];omega);obtain⟨u,v,w,x,y,z,A,B,rfl⟩:=eight T;obtain⟨C,D,F,H,I,J,L,M,rfl⟩:=eight U;have O:mo [u,v,w,x,y,z,A,B]=[La0 u,La0 v,La0 w,La0 x,La0 y,La0 z,La0 A,La0 B]:=rfl;have Q:mo [C,D,F,H,I,J,L,M]=[La0 C,La0 D,La0 F,La0 H,La0 I,La0 J,La0 L,La0 M]:=rfl;have X:Xu Ut=[.p (La0 0),.p (La0 0),.p (La0 0),.p (La0 0),.p (La0 0),.p (La0 0),.p (La0 0),.p (La0 0)]:=rfl;rw[X]at r;rw[O]at l b;rw[Q]at o b;have h:=decide_eq_true h;apply Exists.intro;rw[Xb];simp+decide only[Xo,Xs,VD,Vv,reduceIte,Nat.reduceEqDiff,Nat.reduceLeDiff,Nat.reduceAdd,x46_1,f,X3,c,d,e,V,W,l,o,b,r,h,P,Wj];rfl
theorem HS {E:Xa}{K k0 k i:Nat}(o:E.mode=md){b p q s r:PL}{a:N'}(y:a[i]? =some p)(z:a[k]? =some q)(f:i<k)(hl:a.length<100000){m n g:P'}(X:Ky E b p q m n g)(u:g≠Ut)
  (W:E.pure 88 [.agg [p,.Xp],.agg [q,.Xp],.one b]=some (.agg [s,.Xp])) (e:∀h,h 0=some (Ug a.length a)->WX E h 84 [.agg [.p s,.p .Xp],.one (.own 0 a.length 0 a.length),La4 b]=some ⟨.agg [.p r,.p .Xp],[],[(0,Ug a.length a)],[0]⟩) (hr:Sl r []) (G:V'):
  ∃c,Xb E K 0 [0,1,5,6] x46_1 (k0+1) ⟨HU b a.length a.length k i,Ug a.length a::G⟩=Xb E K 0 [0,1,5,6] x46_1 k0 ⟨HU b a.length a.length k (i+1),Ug a.length a::c⟩:=by
 obtain⟨Z,hn,Y,v,w,d⟩:=X;have e:=fun c=>e (Xj (Ug a.length a::c)) rfl
 have ip:=R6 y;have iq:=R6 z;have j:i<a.length:=(Zg.mp y).1;have l:k<a.length:=(Zg.mp z).1;have t:=hr.len;have x:=U3 Y (n:=Ut) rfl;have U:Xd .i64 (.ofNat (i+1))=.ofNat (i+1):=wrap_i64 (by omega);have tg:(Xu g).take 8=Xu g:=Ze (by rw[Xc];omega);have ht:(pc (Ue a)).take a.length=pc (Ue a):=WT (Ue a) (by grind [Vr]);have hf:=fun h=>Vb 5 h (Ue a)
 have hd:=Nl;obtain⟨A,B,C,D,F,H,I,J,rfl⟩:=eight Z;obtain⟨L,M,N,O,P,Q,R,S,rfl⟩:=eight hn;have T:mo [A,B,C,D,F,H,I,J]=[La0 A,La0 B,La0 C,La0 D,La0 F,La0 H,La0 I,La0 J]:=rfl;have V:mo [L,M,N,O,P,Q,R,S]=[La0 L,La0 M,La0 N,La0 O,La0 P,La0 Q,La0 R,La0 S]:=rfl;have z8:Xu Ut=[.p (La0 0),.p (La0 0),.p (La0 0),.p (La0 0),.p (La0 0),.p (La0 0),.p (La0 0),.p (La0 0)]:=rfl;rw[z8]at x;rw[T]at v d;rw[V]at w d;have u:=decide_eq_false u;apply Exists.intro;rw[Xb];simp+decide only[Xo,Xs,VD,Vv,rq,reduceIte,Nat.reduceEqDiff,Nat.reduceLeDiff,Nat.reduceAdd,x46_1,o,X3,f,j,l,ip,iq,v,w,d,W,e,t,x,u,U,Wj,Zn,Zf];rfl
theorem Kc {E:Xa}{K k0 k i:Nat}(t:E.mode=md){b p q s r:PL}{a:N'}{w:Z'}(A:a[i]? =some p)(B:a[k]? =some q)(j:i<k)(hl:a.length<100000){m n g:P'}(hc:Ky E b p q m n g)(v:g≠Ut)
  (h4:E.pure 88 [.agg [p,.Xp],.agg [q,.Xp],.one b]=some (.agg [s,.Xp])) (e:∀h,h 0=some (Ug a.length a)->WX E h 84 [.agg [.p s,.p .Xp],.one (.own 0 a.length 0 a.length),La4 b]=some ⟨.agg [.p r,.p .Xp],[],[(0,Ug a.length a)],[0]⟩) (hr:Sl r w) (f:0<w.length) (G:V'):
  ∃c,Xb E K 0 [0,1,5,6] x46_1 (k0+1) ⟨HU b a.length a.length k i,Ug a.length a::G⟩=Xb E K 0 [0,1,5,6] x46_1 k0 ⟨HU b (a.length+1) (a++[r]).length k (i+1),Ug (a.length+1) (a++[r])::c⟩:=by
 obtain⟨hm,hn,hg,x,y,d⟩:=hc;have e:=fun c=>e (Xj (Ug a.length a::c)) rfl
 have ip:=R6 A;have iq:=R6 B;have l:i<a.length:=(Zg.mp A).1;have o:k<a.length:=(Zg.mp B).1;have u:=hr.len;have z:=U3 hg (n:=Ut) rfl;have W:Xd .i64 (.ofNat (i+1))=.ofNat (i+1):=wrap_i64 (by omega);obtain⟨X,-,Y⟩:=KE (n:=a.length) (by omega);have tg:(Xu g).take 8=Xu g:=Ze (by rw[Xc];omega);have ht:(pc (Ue a)).take a.length=pc (Ue a):=WT (Ue a) (by grind [Vr]);have hf:=fun h=>Vb 5 h (Ue a)
 have hd:=Nl;obtain⟨C,D,F,H,I,J,L,M,rfl⟩:=eight hm;obtain⟨N,O,P,Q,R,S,T,U,rfl⟩:=eight hn;have V:mo [C,D,F,H,I,J,L,M]=[La0 C,La0 D,La0 F,La0 H,La0 I,La0 J,La0 L,La0 M]:=rfl;have Z:mo [N,O,P,Q,R,S,T,U]=[La0 N,La0 O,La0 P,La0 Q,La0 R,La0 S,La0 T,La0 U]:=rfl;have z8:Xu Ut=[.p (La0 0),.p (La0 0),.p (La0 0),.p (La0 0),.p (La0 0),.p (La0 0),.p (La0 0),.p (La0 0)]:=rfl;rw[z8]at z;rw[V]at x d;rw[Z]at y d;have v:=decide_eq_false v;rw[kU];apply Exists.intro;rw[Xb];simp+decide only[Xo,Xs,VD,Vv,rq,reduceIte,Nat.reduceEqDiff,Nat.reduceLeDiff,Nat.reduceAdd,x46_1,t,X3,j,l,o,ip,iq,x,y,d,h4,e,u,f,z,v,W,X,Y,Wj,Rq,Zn,Zp,Zf];rfl
inductive F8 (E:Xa)(lo:PL)(k:Nat):N'->Nat->N'->Prop
 |stop {ps:N'}:F8 E lo k ps k ps
 |skip {ps ps':N'} {i:Nat} {p q:PL} {m n g:P'} (hi:ps[i]? =some p) (hk:ps[k]? =some q) (hik:i<k) (hl:ps.length<100000) (hc:Ky E lo p q m n g) (hz:g=Ut) (h:F8 E lo k ps (i+1) ps'):F8 E lo k ps i ps'
 |zero {ps ps':N'} {i:Nat} {p q s r:PL} {m n g:P'} (hi:ps[i]? =some p) (hk:ps[k]? =some q) (hik:i<k) (hl:ps.length<100000) (hc:Ky E lo p q m n g) (hz:g≠Ut) (h4:E.pure 88 [.agg [p,.Xp],.agg [q,.Xp],.one lo]=some (.agg [s,.Xp])) (h5:∀h,h 0=some (Ug ps.length ps)->WX E h 84 [.agg [.p s,.p .Xp],.one (.own 0 ps.length 0 ps.length),La4 lo]=some ⟨.agg [.p r,.p .Xp],[],[(0,Ug ps.length ps)],[0]⟩) (hr:Sl r []) (h:F8 E lo k ps (i+1) ps'):F8 E lo k ps i ps'
 |new {ps ps':N'} {i:Nat} {p q s r:PL} {es:Z'} {m n g:P'} (hi:ps[i]? =some p) (hk:ps[k]? =some q) (hik:i<k) (hl:ps.length<100000) (hc:Ky E lo p q m n g) (hz:g≠Ut) (h4:E.pure 88 [.agg [p,.Xp],.agg [q,.Xp],.one lo]=some (.agg [s,.Xp])) (h5:∀h,h 0=some (Ug ps.length ps)->WX E h 84 [.agg [.p s,.p .Xp],.one (.own 0 ps.length 0 ps.length),La4 lo]=some ⟨.agg [.p r,.p .Xp],[],[(0,Ug ps.length ps)],[0]⟩) (hr:Sl r es) (hes:0<es.length) (h:F8 E lo k (ps++[r]) (i+1) ps'):F8 E lo k ps i ps'
inductive IJ (E:Xa)(lo:PL):Nat->N'->Nat->N'->Prop
 |stop {ps:N'}:IJ E lo 0 ps ps.length ps
 |next {N:Nat} {ps ps1 ps2:N'} {k:Nat} (hk:k<ps.length) (hl:ps.length<100000) (h1:F8 E lo k ps 0 ps1) (h:IJ E lo N ps1 (k+1) ps2):IJ E lo (N+1) ps k ps2
theorem LQ {E}{K}(f:E.mode=md){z}{k}{b c}{i}(h:F8 E z k b i c):∀k0 G,i<=k->k-i<k0->
  ∃d F,Xb E K 0 [0,1,5,6] x46_1 k0 ⟨HU z b.length b.length k i,Ug b.length b::G⟩=some (.exit 2,⟨d,Ug c.length c::F⟩)/\Xi d 0=some (.one (.own 0 c.length 0 c.length))/\Xi d 1=some (La4 z)/\Xi d 5=some (La1 k):=by
 induction h with
 |@stop b=>
  intro k0 G _ l;rcases k0 with _|k0;omega;have :∃d,Xb E K 0 [0,1,5,6] x46_1 (k0+1) ⟨HU z b.length b.length k k,Ug b.length b::G⟩=some (.exit 2,⟨d,Ug b.length b::G⟩)/\Xi d 0=some (.one (.own 0 b.length 0 b.length))/\Xi d 1=some (La4 z)/\Xi d 5=some (La1 k):=by
   apply VW
   ·rw[Xb];simp only[Xo,Xs,reduceIte,Nat.reduceEqDiff,x46_1,Zx];rfl
   ·simp only[Xo,reduceIte,Nat.reduceEqDiff,and_self]
  grind
 |skip u l a w t x h y=>
  intro k0 G _ v;rcases k0 with _|k0;omega;obtain⟨o,e⟩:=HT (K:=K) (k0:=k0) f u l a w t x G;rw[e];exact y k0 o a (by omega)
 |zero u l a w t x A B D h y=>
  intro k0 G _ v;rcases k0 with _|k0;omega;obtain⟨o,e⟩:=HS (K:=K) (k0:=k0) f u l a w t x A B D G;rw[e];exact y k0 o a (by omega)
 |@new b c i p q s r H m n g u l a w t x A B D C h y=>
  intro k0 G _ v;rcases k0 with _|k0;omega;obtain⟨o,e⟩:=Kc (K:=K) (k0:=k0) f u l a w t x A B D C G;rw[e];have:=y k0 o a (by omega)
  grind
abbrev M4 (lo:PL)(v n k:Nat):List (Nat×DV):=[(0,.one (.own 0 v 0 n)),(1,La4 lo),(5,La1 k)]
theorem Kb {E}{K}(f:E.mode=md){i}{N}{a c}{k}(h:IJ E i N a k c):∀b G,N<b->k+N<K->
  ∃d e,Xb E K 0 [0,1,5] x46_2 b ⟨M4 i a.length a.length k,Ug a.length a::G⟩=some (.exit 0,⟨d,Ug c.length c::e⟩)/\Xi d 0=some (.one (.own 0 c.length 0 c.length)):=by
 induction h with
 |@stop a=>
  intro b G l _;rcases b with _|b;omega;have :∃d,Xb E K 0 [0,1,5] x46_2 (b+1) ⟨M4 i a.length a.length a.length,Ug a.length a::G⟩=some (.exit 0,⟨d,Ug a.length a::G⟩)/\Xi d 0=some (.one (.own 0 a.length 0 a.length)):=by
   apply VW
   ·rw[Xb];simp only[Xo,Xs,reduceIte,Nat.reduceEqDiff,x46_2,Zx];rfl
   ·simp only[Xo,reduceIte,Nat.reduceEqDiff]
  grind
 |@next N a s t k l A q h r=>
  intro b G z y;rcases b with _|b;omega;obtain⟨x,m,j,u,v,w⟩:=LQ (K:=K) f q K G (Zw _) (by omega);obtain⟨d,e,o,p⟩:=r b m (by omega) (by omega);refine⟨d,e,?_,p⟩;have n:Xd .i64 (.ofNat (k+1))=.ofNat (k+1):=wrap_i64 (by omega);rw[<-o,Xb];simp only[HU]at j;simp+decide only[Xo,Xs,reduceIte,x46_2,l,n,j,u,v,w]
theorem qC {B}(j:Std B){g}{b a}{N}{G}(h:XT B fun E _=>IJ E g N b 0 a):∃c,Uu B 46 [.one (.own 0 b.length 0 b.length),La4 g] (Ug b.length b::G) (.one (.own 0 a.length 0 a.length)) (Ug a.length a::c):=by
 obtain⟨d,i,m,G,rfl,rfl⟩:=Uu.eE (f:=46) (ad:=[.one (.own 0 b.length 0 b.length),La4 g]) (H:=Ug b.length b::G) (P:=fun d i=>∃c,d=.one (.own 0 a.length 0 a.length)/\i=Ug a.length a::c) (j.Wa _ _ rfl) ((h.and (j.Xk.and (XT.ge (N+1)))).mono fun E K ⟨l,e,q⟩=>by
  obtain⟨o,c,k,n⟩:=Kb (K:=K) e l K G (by omega) (by omega);refine⟨_,_,?_,c,rfl,rfl⟩;simp only[M4]at k;simp+decide only[Xo,Xs,Vv,reduceIte,Nat.reduceAdd,x46,k,n])
 exact⟨G,m⟩
theorem xh {B}(A:Std B){i p q x y k l o r u v w z}{m n L s t}(D:m.length=8)(F:n.length=8)(C:L.length=8)(G:s.length=8)(H:t.length=8)
  (a:Xv B 86 [.agg [p,.Xp],.one i] (.agg (mo m))) (b:Xv B 86 [.agg [q,.Xp],.one i] (.agg (mo n)))
  (c:Xv B 108 [.agg (mo m),.agg (mo n)] (.agg (mo L))) (d:Xv B 136 [.agg (mo L),.agg (mo m)] (.Wd [.agg (mo s),.one (.bool true)])) (e:Xv B 136 [.agg (mo L),.agg (mo n)] (.Wd [.agg (mo t),.one (.bool true)]))
  (w1:Xv B 18 [.one (.int .i64 (.negSucc 0))] (.agg [k,l,o,r])) (j:Xv B 18 [.one (La0 1)] (.agg [u,v,w,z]))
  (f:Xv B 134 [.agg [.Xp,.Xl []],.one (.Xl [k::l::o::r::mo s]),.agg [p,.Xp]] (.agg [x,.Xp])) (g:Xv B 134 [.agg [x,.Xp],.one (.Xl [u::v::w::z::mo t]),.agg [q,.Xp]] (.agg [y,.Xp])):
  Xv B 88 [.agg [p,.Xp],.agg [q,.Xp],.one i] (.agg [y,.Xp]):=by
 refine Xv.of (A.Wa _ _ rfl) ((a.Xk.and (b.Xk.and (c.Xk.and (d.Xk.and (e.Xk.and (f.Xk.and (g.Xk.and (w1.Xk.and (j.Xk.and A.Xk))))))))).mono fun E K ⟨a,b,c,d,e,f,g,w1,j,h⟩=> ?_);obtain⟨M,N,O,P,Q,R,S,T,rfl⟩:=eight D;obtain⟨n1,n2,n3,n4,n5,n6,n7,n8,rfl⟩:=eight F;obtain⟨U,V,W,X,Y,Z,l7,l8,rfl⟩:=eight C;obtain⟨s1,s2,s3,s4,s5,s6,s7,s8,rfl⟩:=eight G;obtain⟨t1,t2,t3,t4,t5,t6,t7,t8,rfl⟩:=eight H;simp only[mo,Zt,ZF]at a b c d e f g;cases I:x.scalar<;>cases J:y.scalar<;>simp+decide only[Xo,Xs,Vv,reduceIte,Nat.reduceAdd,x88,h,X3,a,b,c,d,e,f,g,w1,j,I,J]
inductive Q5 (E:Xa):PL->N'->N'->PL->Prop
 |nil {x:PL}:Q5 E x [] [] x
 |skip {x q p y:PL} {qs ps:N'} (hq:Sl q []) (h:Q5 E x qs ps y):Q5 E x (q::qs) (p::ps) y
 |step {x x' q p y:PL} {qs ps:N'} {es:Z'} (hq:Sl q es) (he:0<es.length) (hm:E.pure 134 [.agg [x,.Xp],.one q,.agg [p,.Xp]]=some (.agg [x',.Xp])) (h:Q5 E x' qs ps y):Q5 E x (q::qs) (p::ps) y
theorem Q5.len {E}{x y}{c b}(h:Q5 E x c b y):c.length=b.length:=by
 induction h with
 |nil=>rfl
 |skip _ _ a=>simp[a]
 |step _ _ _ _ a=>simp[a]
abbrev It (Q R:PL):Xx:=⟨false,0,3,[[.p Q,.p R,.p (La0 0)]],false,153⟩
abbrev zx (x:PL):Xx:=⟨false,0,2,[[.p x,.p .Xp]],false,117⟩
abbrev Jh (n v:Nat)(lo:PL)(i:Nat):List (Nat×DV):=[(1,.one (.own 0 v 0 n)),(2,La4 lo),(6,.one (.ptr 2 0 0 0)),(7,.one (.ptr 3 0 0 0)),(8,.one (.ptr 4 0 0 0)),(9,La1 i)]
theorem Bw {E:Xa}{K:Nat}(A:E.mode=md){v:Nat}{lo Q R:PL}{I b:N'}(N:Sl Q (Xf I))(V:b.length<100000)(S:I.length=b.length)(n o:Xx):∀{x y:PL} {m f:N'},Q5 E x m f y->∀(i k:Nat) (G:V'),b.drop i=f->I.drop i=m->i+f.length=b.length->f.length<k->
  ∃a j,Xb E K 0 [1,2,6,7,8,9] x84_1 k ⟨Jh b.length v lo i,Ug v b::n::o::It Q R::zx x::G⟩=some (.exit 0,⟨a,Ug v b::n::o::It Q R::zx y::j⟩)/\Xi a 2=some (La4 lo)/\Xi a 6=some (.one (.ptr 2 0 0 0))/\Xi a 8=some (.one (.ptr 4 0 0 0)):=by
 intro x y m f h;induction h with
 |@nil x=>
  intro i k G _ _ g r;rcases k with _|k;omega;simp only[Zr,ZU]at g;subst g;have :∃a,Xb E K 0 [1,2,6,7,8,9] x84_1 (k+1) ⟨Jh b.length v lo b.length,Ug v b::n::o::It Q R::zx x::G⟩=some (.exit 0,⟨a,Ug v b::n::o::It Q R::zx x::G⟩)/\Xi a 2=some (La4 lo)/\Xi a 6=some (.one (.ptr 2 0 0 0))/\Xi a 8=some (.one (.ptr 4 0 0 0)):=by
   apply VW
   ·rw[Xb];simp only[Xo,Xs,reduceIte,Nat.reduceEqDiff,x84_1,Zx];rfl
   ·simp only[Xo,reduceIte,Nat.reduceEqDiff,and_self]
  grind
 |@skip x q p y m f C h D=>
  intro i k G B d g r;rcases k with _|k;omega;simp only[Zj]at g r;obtain⟨M,w⟩:=Xh B;obtain⟨L,J⟩:=Xh d;have c:i<b.length:=by omega
  have e:=C.len;have F:=fun(z:HF) (H:IntKind)=>N.idx (h:=z) (k:=H) (sz:=1) (XK L) rfl
  have s:Xd .i64 (.ofNat (i+1))=.ofNat (i+1):=wrap_i64 (by omega);obtain⟨a,j,t,u⟩:=D (i+1) k G w J (by omega) (by omega);refine⟨a,j,?_,u⟩;rw[<-t,Xb];simp+decide only[Xo,Xs,reduceIte,Nat.reduceAdd,x84_1,c,F,e,s]
 |@step x W q p y m f U C O P h D=>
  intro i k G B d g r;rcases k with _|k;omega;simp only[Zj]at g r;obtain⟨M,w⟩:=Xh B;obtain⟨L,J⟩:=Xh d;have c:i<b.length:=by omega
  have e:=C.len;have F:=fun(z:HF) (H:IntKind)=>N.idx (h:=z) (k:=H) (sz:=1) (XK L) rfl
  have T:=R6 M;have s:Xd .i64 (.ofNat (i+1))=.ofNat (i+1):=wrap_i64 (by omega);obtain⟨a,j,t,u⟩:=D (i+1) k G w J (by omega) (by omega);refine⟨a,j,?_,u⟩;rw[<-t,Xb];simp+decide only[Xo,Vv,Xs,VD,reduceIte,Nat.reduceEqDiff,Nat.reduceLeDiff,Nat.reduceAdd,x84_1,c,F,T,e,O,P,A,X3,s]
theorem uz {B}(g:Std B){lo Q R p y r}{k a}(w:Sl Q (Xf k))(j:a.length<100000)
  (n:Xv B 109 [.one p,.one (.Xl (Xf a)),.one lo] (.agg [Q,R,La0 0])) (o:XT B fun E _=>Q5 E p k a y) (q:Xv B 89 [.agg [y,.Xp],.one lo] (.agg [r,.Xp])):
  ∃G,Uu B 84 [.agg [.p p,.p .Xp],.one (.own 0 a.length 0 a.length),La4 lo] [Ug a.length a] (.agg [.p r,.p .Xp]) (Ug a.length a::G):=by
 have h0:=qy g (v:=a.length) j;obtain⟨d,i,c,G,rfl,rfl⟩:=Uu.eE (f:=84) (ad:=[.agg [.p p,.p .Xp],.one (.own 0 a.length 0 a.length),La4 lo]) (H:=[Ug a.length a]) (P:=fun d i=>∃G,d=.agg [.p r,.p .Xp]/\i=Ug a.length a::G) (g.Wa _ _ rfl) ((h0.and (n.Xk.and (o.and (q.Xk.and (g.Xk.and (XT.ge (a.length+1))))))).mono fun E K ⟨e,e1,e2,l,b,z⟩=>by
  obtain⟨x,h,c,s,t,u⟩:=Bw (K:=K) b (v:=a.length) (lo:=lo) (R:=R) w j e2.len ⟨false,0,2,[[.p p,.p .Xp]],false,117⟩ ⟨false,0,2,[[.p .Xp,.p .Xp]],false,117⟩ e2 0 K [] rfl rfl (by omega) (by omega);simp only[Jh]at c;have e:=fun h=>e (Xj (Ug a.length a::h)) rfl
  have m:∃G2,VN E K x84 [.agg [.p p,.p .Xp],.one (.own 0 a.length 0 a.length),La4 lo] [Ug a.length a]=some (.agg [.p r,.p .Xp],Ug a.length a::G2):=by
   apply Exists.intro;simp+decide only[Xo,Xs,Vv,reduceIte,Nat.reduceAdd,x84,b,X3,e,e1,l,c,s,t,u];rfl
  grind)
 exact⟨_,c⟩
theorem uy {B}(i:Std B){b Q R p y r}{c a}(m:Sl Q (Xf c))(l:a.length<100000)
  (d:Xv B 109 [.one p,.one (.Xl (Xf a)),.one b] (.agg [Q,R,La0 0])) (f:XT B fun E _=>Q5 E p c a y) (g:Xv B 89 [.agg [y,.Xp],.one b] (.agg [r,.Xp])):
  XT B fun E _=>∀h,h 0=some (Ug a.length a)->WX E h 84 [.agg [.p p,.p .Xp],.one (.own 0 a.length 0 a.length),La4 b]=some ⟨.agg [.p r,.p .Xp],[],[(0,Ug a.length a)],[0]⟩:=by
 obtain⟨G,k⟩:=uz i m l d f g;exact k.Xk.mono fun E K e h j=>rN (r:=.agg [r,.Xp]) rfl rfl j rfl rfl rfl (NG a) e rfl rfl
abbrev Jg (L:PL)(lo:PL)(i:Nat):List (Nat×DV):=[(1,La4 L),(2,La4 lo),(6,.one (.ptr 1 0 0 0)),(7,.one (.ptr 2 0 0 0)),(8,.one (.ptr 3 0 0 0)),(9,La1 i)]
theorem Bv {E:Xa}{K:Nat}(C:E.mode=md){L:PL}{lo Q R:PL}{J c:N'}(v:Sl L (Ue c))(P:Sl Q (Xf J))(X:c.length<100000)(U:J.length=c.length)(s t:Xx):∀{x y:PL} {r g:N'},Q5 E x r g y->∀(i k:Nat) (G:V'),c.drop i=g->J.drop i=r->i+g.length=c.length->g.length<k->
  ∃b l,Xb E K 0 [1,2,6,7,8,9] x84_1 k ⟨Jg L lo i,s::t::It Q R::zx x::G⟩=some (.exit 0,⟨b,s::t::It Q R::zx y::l⟩)/\Xi b 2=some (La4 lo)/\Xi b 6=some (.one (.ptr 1 0 0 0))/\Xi b 8=some (.one (.ptr 3 0 0 0)):=by
 intro x y r g h;induction h with
 |@nil x=>
  intro i k G _ _ j u;rcases k with _|k;omega;simp only[Zr,ZU]at j;subst j;have a:=v.len;have :∃b,Xb E K 0 [1,2,6,7,8,9] x84_1 (k+1) ⟨Jg L lo c.length,s::t::It Q R::zx x::G⟩=some (.exit 0,⟨b,s::t::It Q R::zx x::G⟩)/\Xi b 2=some (La4 lo)/\Xi b 6=some (.one (.ptr 1 0 0 0))/\Xi b 8=some (.one (.ptr 3 0 0 0)):=by
   apply VW
   ·rw[Xb];simp only[Xo,Xs,reduceIte,Nat.reduceEqDiff,x84_1,a,Vr,Zx];rfl
   ·simp only[Xo,reduceIte,Nat.reduceEqDiff,and_self]
  grind
 |@skip x q p y r g F h H=>
  intro i k G D e j u;rcases k with _|k;omega;simp only[Zj]at j u;obtain⟨O,B⟩:=Xh D;obtain⟨N,M⟩:=Xh e;have d:i<c.length:=by omega
  have a:=v.len;have f:=F.len;have I:=fun(m:HF) (o:IntKind)=>P.idx (h:=m) (k:=o) (sz:=1) (XK N) rfl
  have w:Xd .i64 (.ofNat (i+1))=.ofNat (i+1):=wrap_i64 (by omega);obtain⟨b,l,z,A⟩:=H (i+1) k G B M (by omega) (by omega);refine⟨b,l,?_,A⟩;rw[<-z,Xb];simp+decide only[Xo,Xs,reduceIte,Nat.reduceAdd,x84_1,a,Vr,d,I,f,w]
 |@step x Y q p y r g W F S T h H=>
  intro i k G D e j u;rcases k with _|k;omega;simp only[Zj]at j u;obtain⟨O,B⟩:=Xh D;obtain⟨N,M⟩:=Xh e;have d:i<c.length:=by omega
  have a:=v.len;have f:=F.len;have I:=fun(m:HF) (o:IntKind)=>P.idx (h:=m) (k:=o) (sz:=1) (XK N) rfl
  have V:=fun(m:HF) (o:IntKind)=>v.idx (h:=m) (k:=o) (sz:=2) (au O) rfl
  have w:Xd .i64 (.ofNat (i+1))=.ofNat (i+1):=wrap_i64 (by omega);obtain⟨b,l,z,A⟩:=H (i+1) k G B M (by omega) (by omega);refine⟨b,l,?_,A⟩;rw[<-z,Xb];simp+decide only[Xo,Vv,Xs,VD,reduceIte,Nat.reduceEqDiff,Nat.reduceLeDiff,Nat.reduceAdd,x84_1,a,Vr,d,I,V,f,S,T,C,X3,w]
theorem ux {B}(e:Std B){L lo Q R p y r}{i b}(j:Sl L (Ue b))(v:Sl Q (Xf i))(h:b.length<100000)
  (n:Xv B 109 [.one p,.one (.Xl (Xf b)),.one lo] (.agg [Q,R,La0 0])) (o:XT B fun E _=>Q5 E p i b y) (q:Xv B 89 [.agg [y,.Xp],.one lo] (.agg [r,.Xp])):
  ∃G,Uu B 84 [.agg [.p p,.p .Xp],La4 L,La4 lo] [] (.agg [.p r,.p .Xp]) (G):=by
 have h0:=uA e j h;obtain⟨d,g,c,G,rfl,rfl⟩:=Uu.eE (f:=84) (ad:=[.agg [.p p,.p .Xp],La4 L,La4 lo]) (H:=[]) (P:=fun d g=>∃G,d=.agg [.p r,.p .Xp]/\g=G) (e.Wa _ _ rfl) ((h0.and (n.Xk.and (o.and (q.Xk.and (e.Xk.and (XT.ge (b.length+1))))))).mono fun E K ⟨k,e1,e2,l,a,z⟩=>by
  obtain⟨x,w,c,s,t,u⟩:=Bv (K:=K) a (lo:=lo) (R:=R) j v h e2.len ⟨false,0,2,[[.p p,.p .Xp]],false,117⟩ ⟨false,0,2,[[.p .Xp,.p .Xp]],false,117⟩ e2 0 K [] rfl rfl (by omega) (by omega);simp only[Jg]at c;have m:∃G2,VN E K x84 [.agg [.p p,.p .Xp],La4 L,La4 lo] []=some (.agg [.p r,.p .Xp],G2):=by
   apply Exists.intro;simp+decide only[Xo,Xs,Vv,reduceIte,Nat.reduceAdd,x84,a,X3,k,e1,l,c,s,t,u];rfl
  grind)
 exact⟨_,c⟩
theorem uv {B}(i:Std B){L b Q R p y r}{c a}(l:Sl L (Ue a))(m:Sl Q (Xf c))(j:a.length<100000)
  (d:Xv B 109 [.one p,.one (.Xl (Xf a)),.one b] (.agg [Q,R,La0 0])) (f:XT B fun E _=>Q5 E p c a y) (g:Xv B 89 [.agg [y,.Xp],.one b] (.agg [r,.Xp])):
  XT B fun E _=>∀h,WX E h 84 [.agg [.p p,.p .Xp],La4 L,La4 b]=some ⟨.agg [.p r,.p .Xp],[],[],[]⟩:=by
 obtain⟨G,k⟩:=ux i l m j d f g;exact k.Xk.mono fun E K e h=>mT (r:=.agg [r,.Xp]) rfl rfl e rfl
theorem MX {a b:Type}{f:a->b->Prop}{x}{y}(h:f x y):∃x y,f x y:=⟨x,y,h⟩
def RZ:J'->Nat->Nat->P'->Bool
 |[],_,_,_=>false
 |m::ms,i,a,n=>if i≠a/\Ww m n=true then true else RZ ms (i+1) a n
abbrev FU (E:Xa)(lo:PL)(ps:N')(ms:J'):Prop:=XE (fun p m=>m.length=8/\E.pure 86 [.agg [p,.Xp],.one lo]=some (.agg (mo m))) ps ms
abbrev Ik (L lo:PL)(a i:Nat):List (Nat×DV):=[(0,La4 L),(1,La1 a),(2,La4 lo),(7,La1 i)]
theorem EF {E:Xa}{K:Nat}(v:E.mode=md){L j:PL}{c:N'}(T:Sl L (Ue c))(hl:c.length<100000){a:Nat}{pa:PL}{n:P'}(W:c[a]? =some pa)(hn:n.length=8)(t:E.pure 86 [.agg [pa,.Xp],.one j]=some (.agg (mo n)))
  :∀{rest:N'} {f:J'},FU E j rest f->(∀m∈f,E.pure 133 [.agg (mo m),.agg (mo n)]=some (.one (.bool (Ww m n))))->∀(i k:Nat) (G:V'),c.drop i=rest->i+rest.length=c.length->rest.length<k->
  ∃U g o,Xb E K 0 [0,1,2,7] x82_1 k ⟨Ik L j a i,G⟩=some (U,⟨g,o⟩)/\((RZ f i a n=false/\U=.exit 0)\/(RZ f i a n=true/\U=.ret/\Xi g 6=some (La4 (.bool true)))):=by
 intro rest f h;induction h with
 |nil=>
  intro _ i k G _ I hk;rcases k with _|k;omega;simp only[Zr,ZU]at I;subst I;have b:=T.len;have :∃g o,Xb E K 0 [0,1,2,7] x82_1 (k+1) ⟨Ik L j a c.length,G⟩=some (.exit 0,⟨g,o⟩):=by
   apply MX;rw[Xb];simp only[Xo,Xs,reduceIte,Nat.reduceEqDiff,x82_1,b,Vr,Zx];rfl
  obtain⟨g,o,g1⟩:=this;exact⟨.exit 0,g,o,g1,.inl ⟨rfl,rfl⟩⟩
 |@cons p m rest f hp h ih=>
  intro r i k G hd I hk;rcases k with _|k;omega;simp only[Zj]at I hk;obtain⟨gi,gd⟩:=Xh hd;obtain⟨H,u⟩:=hp;have d:=r m (Zc ..);have s:i<c.length:=by omega
  have b:=T.len;have ip:=fun(V:HF) (Y:IntKind)=>T.idx (h:=V) (k:=Y) (sz:=2) (au gi) rfl
  have ia:=fun(V:HF) (Y:IntKind)=>T.idx (h:=V) (k:=Y) (sz:=2) (au W) rfl
  have Z:Xd .i64 (.ofNat (i+1))=.ofNat (i+1):=wrap_i64 (by omega);obtain⟨J,M,N,O,P,Q,R,S,rfl⟩:=eight H;obtain⟨w,x,y,z,A,B,C,D,rfl⟩:=eight hn;by_cases F:i=a
  ·have e1:RZ ([J,M,N,O,P,Q,R,S]::f) i a [w,x,y,z,A,B,C,D]=RZ f (i+1) a [w,x,y,z,A,B,C,D]:=by
    grind [RZ]
   subst F;have this:∃q,Xb E K 0 [0,1,2,7] x82_1 (k+1) ⟨Ik L j i i,G⟩=Xb E K 0 [0,1,2,7] x82_1 k ⟨Ik L j i (i+1),q⟩:=by
    apply Exists.intro;rw[Xb];simp+decide only[Xo,Xs,VD,reduceIte,Nat.reduceEqDiff,Nat.reduceAdd,x82_1,b,Vr,s,v,X3,Z];rfl
   obtain⟨q,e⟩:=this;rw[e1,e];exact ih (fun m H=>r m (Za _ H)) (i+1) k q gd (by omega) (by omega)
  ·have l:¬i=a:=F;simp only[mo,Zt,ZF]at u t d;cases hb:Ww [J,M,N,O,P,Q,R,S] [w,x,y,z,A,B,C,D]with
   |false=>
    rw[hb]at d;have e1:RZ ([J,M,N,O,P,Q,R,S]::f) i a [w,x,y,z,A,B,C,D]=RZ f (i+1) a [w,x,y,z,A,B,C,D]:=by
     grind [RZ]
    have this:∃q,Xb E K 0 [0,1,2,7] x82_1 (k+1) ⟨Ik L j a i,G⟩=Xb E K 0 [0,1,2,7] x82_1 k ⟨Ik L j a (i+1),q⟩:=by
     apply Exists.intro;rw[Xb];simp+decide only[Xo,Vv,Xs,VD,reduceIte,Nat.reduceEqDiff,Nat.reduceAdd,x82_1,b,Vr,s,l,ip,ia,u,t,d,v,X3,Z];rfl
    obtain⟨q,e⟩:=this;rw[e1,e];exact ih (fun m H=>r m (Za _ H)) (i+1) k q gd (by omega) (by omega)
   |true=>
    rw[hb]at d;have e1:RZ ([J,M,N,O,P,Q,R,S]::f) i a [w,x,y,z,A,B,C,D]=true:=by
     grind [RZ]
    have this:∃g o,Xb E K 0 [0,1,2,7] x82_1 (k+1) ⟨Ik L j a i,G⟩=some (.ret,⟨g,o⟩)/\Xi g 6=some (La4 (.bool true)):=by
     apply Cn
     ·rw[Xb];simp+decide only[Xo,Vv,Xs,VD,reduceIte,Nat.reduceEqDiff,Nat.reduceAdd,x82_1,b,Vr,s,l,ip,ia,u,t,d,v,X3];rfl
     ·simp only[Xo,reduceIte,Nat.reduceEqDiff]
    grind
theorem BA {B}(j:Std B){L o}{f}{c}(x:Sl L (Ue f))(t:f.length<100000)(h:XT B fun E _=>FU E o f c)(b:∀m∈c,XA m){a}{n}(q:c[a]? =some n):
  Xv B 82 [.one L,.one (La0 a),.one o] (.one (.bool (RZ c 0 a n))):=by
 have r:=b n (Zh q);have s:XT B fun E _=>∀m∈c,E.pure 133 [.agg (mo m),.agg (mo n)]=some (.one (.bool (Ww m n))):=UG fun m u=>(Oc j (b m u).1 r.1).Xk
 refine Xv.of (j.Wa _ _ rfl) ((h.and (s.and (j.Xk.and (XT.ge (f.length+1))))).mono fun E K ⟨p,e1,k,D⟩=> ?_);have v:∃d,f[a]? =some d/\E.pure 86 [.agg [d,.Xp],.one o]=some (.agg (mo n)):=by
  obtain⟨d,g,-,i⟩:=p.get a n q;exact⟨d,g,i⟩
 obtain⟨d,g,i⟩:=v;obtain⟨C,A,z,l,w⟩:=EF (K:=K) k x t g r.1 i p e1 0 K [] rfl (by omega) (by omega);simp only[Ik]at l;rcases w with⟨e,rfl⟩|⟨e,rfl,y⟩
 ·rw[e];simp+decide only[Xo,Xs,reduceIte,Nat.reduceAdd,x82,l]
 ·rw[e];simp+decide only[Xo,Xs,reduceIte,Nat.reduceAdd,x82,l,y]
inductive rp (E:Xa)(lo:PL):Nat->N'->Nat->N'->Prop
 |stop {ps:N'}:rp E lo 0 ps ps.length ps
 |drop {N a:Nat} {ps ps':N'} (ha:a<ps.length) (h1:E.pure 82 [.one (.Xl (Ue ps)),.one (La0 a),.one lo]=some (.one (.bool true))) (h2:E.pure 83 [.one (.Xl (Ue ps)),.one (La0 a)]=some (.one (.Xl (Ue (Un ps 0 a))))) (h:rp E lo N (Un ps 0 a) a ps'):rp E lo (N+1) ps a ps'
 |VS {N a:Nat} {ps ps':N'} (ha:a<ps.length) (hl:ps.length<100000) (h1:E.pure 82 [.one (.Xl (Ue ps)),.one (La0 a),.one lo]=some (.one (.bool false))) (h:rp E lo N ps (a+1) ps'):rp E lo (N+1) ps a ps'
theorem HC {E}{K}(d:E.mode=md){n}{N a}{f b}(h:rp E n N f a b):∀k G,N<k->
  ∃c,Xb E K 0 [0,1,5] x45_1 k ⟨[(0,La4 (.Xl (Ue f))),(1,La4 n),(5,La1 a)],G⟩=some (.exit 0,⟨c,G⟩)/\Xi c 0=some (La4 (.Xl (Ue b)))/\Xi c 1=some (La4 n):=by
 induction h with
 |@stop f=>
  intro k G o;rcases k with _|k;omega;apply VW
  ·rw[Xb];simp only[Xo,Xs,reduceIte,Nat.reduceEqDiff,x45_1,Vr,Zx];rfl
  ·simp only[Xo,reduceIte,Nat.reduceEqDiff,and_self]
 |@drop N a f b l j r h m=>
  intro k G o;rcases k with _|k;omega;obtain⟨c,g,i⟩:=m k G (by omega);refine⟨c,?_,i⟩;rw[<-g,Xb];simp+decide only[Xo,Vv,Xs,reduceIte,x45_1,Vr,l,j,r,d,X3]
 |@VS N a f b l s j h m=>
  intro k G o;rcases k with _|k;omega;obtain⟨c,g,i⟩:=m k G (by omega);have q:Xd .i64 (.ofNat (a+1))=.ofNat (a+1):=wrap_i64 (by omega);refine⟨c,?_,i⟩;rw[<-g,Xb];simp+decide only[Xo,Vv,Xs,reduceIte,x45_1,Vr,l,j,q,d,X3]
inductive rj (E:Xa)(lo:PL)(os:N')(r:PL):Nat->Nat->Prop
 |zero:rj E lo os r 0 0
 |stop {k:Nat} {p:PL} {m n:P'} {c:Int} (hp:os[k]? =some p) (m8:m.length=8) (n8:n.length=8) (h1:E.pure 86 [.agg [p,.Xp],.one lo]=some (.agg (mo m))) (h2:E.pure 86 [.agg [r,.Xp],.one lo]=some (.agg (mo n))) (h3:E.pure 85 [.one lo,.agg (mo m),.agg (mo n)]=some (.one (.int .i64 c))) (hc:S6 (.ofNat 0) c=false):rj E lo os r (k+1) (k+1)
 |step {k k':Nat} {p:PL} {m n:P'} {c:Int} (hp:os[k]? =some p) (m8:m.length=8) (n8:n.length=8) (h1:E.pure 86 [.agg [p,.Xp],.one lo]=some (.agg (mo m))) (h2:E.pure 86 [.agg [r,.Xp],.one lo]=some (.agg (mo n))) (h3:E.pure 85 [.one lo,.agg (mo m),.agg (mo n)]=some (.one (.int .i64 c))) (hc:S6 (.ofNat 0) c=true) (h:rj E lo os r k k'):rj E lo os r (k+1) k'
theorem rj.le {E}{b r}{c}{k a}(h:rj E b c r k a):a<=k:=by
 induction h with
 |zero=>exact Zf _
 |stop=>exact Zf _
 |step _ _ _ _ _ _ _ _ d=>omega
theorem DX (a)(k):(pc (Ue a)).take k=pc (Ue (a.take k)):=by simp_all [pc,Ue]
theorem DY (a)(k):(pc (Ue a)).drop k=pc (Ue (a.drop k)):=by simp_all [pc,Ue]
theorem G6:∀a,((pc (Ue a)).all fun c=>decide (c.length=2))=true
 |[]=>rfl
 |p::a=>by
  grind [pc,Ue]
theorem Le (d)(h)(id XW a c l u):WN d h (.own id XW a c) l (some u)=match h id with
  |some b=>bif Nat.ble l u&&(Nat.ble u c||(Nat.beq b.XW XW&& !b.mp&&Nat.beq a 0&&Nat.blt 0 d&&Nat.ble u b.ch.length))&&Nat.beq b.sz d then some (.own id XW (a+l) (u-l),[id])else none
  |none=>none:=rfl
theorem Ld (d)(h)(id XW c a l):WN d h (.own id XW c a) l none=match h id with
  |some b=>bif Nat.ble l a&&(Nat.ble a a||(Nat.beq b.XW XW&& !b.mp&&Nat.beq c 0&&Nat.blt 0 d&&Nat.ble a b.ch.length))&&Nat.beq b.sz d then some (.own id XW (c+l) (a-l),[id])else none
  |none=>none:=rfl
abbrev YW (ps:N')(lo:PL)(id v n i rid k:Nat):List (Nat×DV):=[(0,La4 (.Xl (Ue ps))),(1,La4 lo),(6,.one (.own id v 0 n)),(7,La1 i),(8,.one (.ptr rid 0 0 0)),(9,La1 k)]
theorem HA {E:Xa}{K:Nat}(g:E.mode=md){y r:PL}{ps f:N'}{id v i j:Nat}{H:V'}(D:H[id]? =some (Ug v f))(F:H[j]? =some (zx r))(L:f.length<100000){k e:Nat}(h:rj E y f r k e):∀(a:Nat),k<=f.length->k<a->
  ∃d,Xb E K 0 [0,1,6,7,8,9] x45_2 a ⟨YW ps y id v f.length i j k,H⟩=some (.exit 4,⟨d,H⟩)/\Xi d 0=some (La4 (.Xl (Ue ps)))/\Xi d 1=some (La4 y)/\Xi d 6=some (.one (.own id v 0 f.length))/\Xi d 7=some (La1 i)/\Xi d 8=some (.one (.ptr j 0 0 0))/\Xi d 9=some (La1 e):=by
 induction h with
 |zero=>
  intro a _ G;rcases a with _|a;omega;apply VW
  ·rw[Xb];simp+decide only[Xo,Xs,VD,reduceIte,Nat.reduceEqDiff,Nat.reduceAdd,x45_2,g,X3];rfl
  ·simp only[Xo,reduceIte,Nat.reduceEqDiff,and_self]
 |@stop k p m n c w z A l o q t=>
  intro a u G;rcases a with _|a;omega;have x:=R6 w;have s:Xd .i64 (.ofNat (k+1)-.ofNat 1)=.ofNat k:=by rw[X9 (by omega) (by omega),Ys]
  have b:k<f.length:=by omega
  have C:0<k+1:=by omega
  obtain⟨N,O,P,Q,R,S,T,U,rfl⟩:=eight z;obtain⟨V,W,X,Y,Z,n6,n7,B,rfl⟩:=eight A;simp only[mo,Zt,ZF]at l o q;apply VW
  ·rw[Xb];simp+decide only[Xo,Xs,VD,Vv,reduceIte,Nat.reduceEqDiff,Nat.reduceAdd,x45_2,g,X3,C,D,F,b,x,l,o,q,t,s];rfl
  ·simp only[Xo,reduceIte,Nat.reduceEqDiff,and_self]
 |@step k e p m n c w z A l o q t h M=>
  intro a u G;rcases a with _|a;omega;have x:=R6 w;have s:Xd .i64 (.ofNat (k+1)-.ofNat 1)=.ofNat k:=by rw[X9 (by omega) (by omega),Ys]
  have b:k<f.length:=by omega
  have C:0<k+1:=by omega
  obtain⟨N,O,P,Q,R,S,T,U,rfl⟩:=eight z;obtain⟨V,W,X,Y,Z,n6,n7,B,rfl⟩:=eight A;simp only[mo,Zt,ZF]at l o q;obtain⟨d,I,J⟩:=M a (by omega) (by omega);refine⟨d,?_,J⟩;rw[<-I,Xb];simp+decide only[Xo,Xs,VD,Vv,reduceIte,Nat.reduceEqDiff,Nat.reduceAdd,x45_2,g,X3,C,D,F,b,x,l,o,q,t,s]
inductive xU (E:Xa)(lo:PL)(ps:N'):N'->Nat->N'->Prop
 |stop {os:N'}:xU E lo ps os ps.length os
 |next {i k:Nat} {os os':N'} {p r:PL} (hp:ps[i]? =some p) (h1:E.pure 83 [.one (.Xl (Ue ps)),.one (La0 i)]=some (.one (.Xl (Ue (Un ps 0 i))))) (h2:∀h,WX E h 84 [.agg [.p p,.p .Xp],La4 (.Xl (Ue (Un ps 0 i))),La4 lo]=some ⟨.agg [.p r,.p .Xp],[],[],[]⟩) (h3:rj E lo os r os.length k) (h:xU E lo ps (os.take k++[r]++os.drop k) (i+1) os'):xU E lo ps os i os'
theorem HB {E:Xa}{K:Nat}(j:E.mode=md){A:PL}{ps:N'}(hl:ps.length<50000)(hK:ps.length<K){a d:N'}{i:Nat}(h:xU E A ps a i d):∀(b id v:Nat) (H:V'),ps.length<b+i->a.length<=i->H[id]? =some (Ug v a)->
  ∃f l c o,Xb E K 0 [0,1,6,7] x45_3 b ⟨[(0,La4 (.Xl (Ue ps))),(1,La4 A),(6,.one (.own id v 0 a.length)),(7,La1 i)],H⟩=some (.exit 2,⟨f,l⟩)/\Xi f 6=some (.one (.own c o 0 d.length))/\l[c]? =some (Ug o d):=by
 induction h with
 |@stop a=>
  intro b id v H Y _ C;rcases b with _|b;omega;have :∃f,Xb E K 0 [0,1,6,7] x45_3 (b+1) ⟨[(0,La4 (.Xl (Ue ps))),(1,La4 A),(6,.one (.own id v 0 a.length)),(7,La1 ps.length)],H⟩=some (.exit 2,⟨f,H⟩)/\Xi f 6=some (.one (.own id v 0 a.length)):=by
   apply VW
   ·rw[Xb];simp only[Xo,Xs,reduceIte,Nat.reduceEqDiff,x45_3,Vr,Zx];rfl
   ·simp only[Xo,reduceIte,Nat.reduceEqDiff]
  grind
 |@next i k a d p r D U V B h Z=>
  intro b id v H Y ho C;have w:i<ps.length:=(Zg.1 D).1;rcases b with _|b;omega;have x:=B.le;have g:(a.take k++[r]++a.drop k).length=a.length+1:=by simp;omega
  have X:id<H.length:=(Zg.1 C).1;have e:∀L:V',(H++L)[id]? =some (Ug v a):=fun L=>by grind
  obtain⟨f,l,c,o,u,S,T⟩:=Z b (H.length+1) 3 (H++[zx r,Ug 3 (a.take k++[r]++a.drop k),zx r]) (by omega) (by omega) (by grind);refine⟨f,l,c,o,?_,S,T⟩;have N:Xd .i64 (.ofNat (i+1))=.ofNat (i+1):=wrap_i64 (by omega);have ip:=fun(W:HF) (kd:IntKind)=>Sl.Xl.idx (h:=W) (k:=kd) (sz:=2) (au D) rfl
  have y:(H++[zx r])[H.length]? =some (zx r):=by grind
  obtain⟨T1,F,t0,t1,t6,t7,t8,t9⟩:=HA (K:=K) j (ps:=ps) (i:=i) (e [zx r]) y (by omega) B K (Zf _) (by omega);have l1:(a.take k).length=k:=by simp;omega
  have l2:(a.drop k).length=a.length-k:=by simp
  obtain⟨m,-,f3⟩:=KE (n:=a.length) (by omega);have O:k*48<=lim:=Zy (by omega) m;have P:k<=9223372036854775807:=by omega
  have Q:(k+1)*48<=lim:=Zy (by omega) m;have R:k+1<=9223372036854775807:=by omega
  have f8:(k+1+(a.length-k))*48<=lim:=Zy (by omega) m;have f9:k+1+(a.length-k)<=9223372036854775807:=by omega
  have s:k+(a.length-k)<=a.length:=by omega
  have t:a.length<=9223372036854775806:=by omega
  have G:=G6;rw[g]at u;have J:Ug 3 (a.take k++[r]++a.drop k)=⟨false,3,2,pc (Ue (a.take k))++[[.p r,.p .Xp]]++pc (Ue (a.drop k)),false,117⟩:=by simp[Ug,Ue,pc]
  rw[J]at u;have M:k+1+(a.length-k)=a.length+1:=by omega
  have I:((pc (Ue a)).drop k).take (a.length-k)=pc (Ue (a.drop k)):=by simp_all [DY,Ze,Rq]
  have q:(pc (Ue a)).take k=pc (Ue (a.take k)):=DX a k;have lt:(pc (Ue (a.take k))).length=k:=by rw[Rq,l1]
  have ld:(pc (Ue (a.drop k))).length=a.length-k:=by rw[Rq,l2]
  simp only[YW]at F;rw[<-u,Xb];simp+decide only[Xo,Xs,VD,Vv,rq,reduceIte,Nat.reduceEqDiff,Nat.reduceLeDiff,Nat.reduceAdd,x45_3,j,X3,Vr,w,ip,U,V,F,t0,t1,t6,t7,t8,t9,e,N,Le,Ld,x,O,P,Q,R,m,s,t,G,I,q,lt,ld,M,Rq,Nat.sub_zero,Zf,Zw,Zn,Zp]
theorem EJ {B}(g:Std B){e}{N}{i c a}(o:c.length<50000)(l:XT B fun E _=>rp E e N i 0 c)(m:XT B fun E _=>xU E e c [] 0 a):Xv B 45 [.one (.Xl (Ue i)),.one e] (.one (.Xl (Ue a))):=by
 refine Xv.of (g.Wa _ _ rfl) ((l.and (m.and (g.Xk.and (XT.ge (N+c.length+1))))).mono fun E K ⟨e1,e2,b,x⟩=> ?_);obtain⟨v,j,r,s⟩:=HC (K:=K) b e1 K [] (by omega);obtain⟨w,u,q,y,f,t,k⟩:=HB (K:=K) b o (by omega) e2 K 0 0 [Ug 0 []] (by omega) (Zf _) rfl;have d:pc (Ue [])=[]:=rfl;have p:(pc (Ue a)).take a.length=pc (Ue a):=WT (Ue a) (by grind [Vr]);have n:=fun h=>Vb 5 h (Ue a)
 simp only[Ug,d,Zr]at f;simp+decide only[Xo,Xs,reduceIte,Nat.reduceAdd,x45,j,r,s,f,t,k,p,n,Rq,Zf]
abbrev YV (cs:N'):Xx:=⟨true,cs.length,2,pc (Ue cs),false,117⟩
theorem Bz {B}(g:Std B){L c}{k o b l a}{N M}(O:Sl L (Xf k))(R:k.length<50000)(z:l.length<50000)(S:a.length<50000)(t:XT B fun E _=>Pe E c k o)(u:XT B fun E _=>IJ E c N o 0 b)(v:XT B fun E _=>rp E c M b 0 l)(w:XT B fun E _=>xU E c l [] 0 a):
  XT B fun E _=>∀H,UL E 16 [La4 L,La4 c] H=some (.one (.own H.length a.length 0 a.length),H++[TF a.length a]):=by
 obtain⟨G,C⟩:=uB g O (by omega) t;obtain⟨m,D⟩:=qC g (G:=G) u;have F:=EJ g z v w;have I:=qx g (L:=.Xl (Ue a)) .Xl (by omega);obtain⟨d,n,J,i,Q,rfl⟩:=Uu.eE (f:=16) (ad:=[La4 L,La4 c]) (H:=[]) (P:=fun d n=>∃i,n[i]? =some (TF a.length a)/\d=.one (.own i a.length 0 a.length)) (g.Wa _ _ rfl) ((C.Xk.and (D.Xk.and (F.Xk.and (I.and g.Xk)))).mono fun E K ⟨e1,e2,q,r,j⟩=>by
  have A:(pc (Ue b)).take b.length=pc (Ue b):=WT (Ue b) (by grind [Vr]);have y:=fun h=>Vb 5 h (Ue b)
  have x:=Nl;have s:VN E K x16 [La4 L,La4 c] []=some (.one (.own (YV b::m).length a.length 0 a.length),(YV b::m)++[TF a.length a]):=by
   simp+decide only[Xo,Xs,VD,Vv,reduceIte,Nat.reduceAdd,x16,j,X3,e1,e2,q,r,A,y,x,Rq,Zf];all_goals rfl
  grind)
 exact J.Xk.mono fun E K e H=>by
  simp_all [UL,RR,TH,RC]
