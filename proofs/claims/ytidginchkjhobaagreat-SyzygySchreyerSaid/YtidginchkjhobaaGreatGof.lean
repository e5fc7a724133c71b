/- The reference's rational numbers: Inv. -/
import Derived.Test.YtidginchkjhobaaGreatRDv
set_option maxHeartbeats 16000000
set_option maxRecDepth 100000
namespace Go.Proofs.YtidginchkjhobaaGreat
open Go.Ev Go.Num
theorem uD {B:Xs}(a:Std B){c:N'}{x:Rat}(m:Ri c x)(j:Sq x)(h0:x≠0):∃e,Xu B 137 [.agg c] (.X9 [.agg e,.one (LA 0)])/\Ri e x⁻¹:=by
 obtain⟨t,s,u,m2,rfl,b,d⟩:=m;have i:x.num≠0:=fun h=>h0 (Rat.num_eq_zero.1 h)
 obtain⟨e,l,f⟩:=BK a d b (ab (by have:=j.oY;omega)) (ab (by have:=j.uR;omega)) i;rw[<-Rat.inv_def]at f;have g:=f;obtain⟨o,p,q,r,k,-,-⟩:=g;subst k;refine⟨_,Xu.of (a.Wa _ _ rfl) ((l.Xk.and a.Xk).mono fun E K ⟨e1,n⟩=> ?_),f⟩;simp(decide:=true)only[Xo,Xr,reduceIte,Nat.reduceAdd,x137,n,X4,e1]
def Ub (ps:N'):I':=ps.map fun p=>[p,.Xq]
theorem Vg (a:N'):(Ub a).length=a.length:=by simp[Ub]
theorem NL {a:N'}{i:Nat}{p:PL}(h:a[i]? =some p):(Ub a)[i]? =some [p,.Xq]:=by simp[Ub,h]
abbrev Ud (v:Nat)(ps:N'):Xx:=⟨false,v,2,pc (Ub ps),false,117⟩
theorem jK (v:Nat)(a:N')(p:PL):Ud v (a++[p])=⟨false,v,2,pc (Ub a)++[[.p p,.p .Xq]],false,117⟩:=by simp[Ud,Ub,pc]
theorem vn {B:Xs}(f:Std B){c:N'}{x:Rat}(i:Ri c x){p q:PL}(h:Xu B 17 [.agg c,.one p] (.one q)):Xu B 138 [.agg c,.agg [p,.Xq]] (.agg [q,.Xq]):=by
 obtain⟨n,a,d,b,rfl⟩:=i.len;refine Xu.of (f.Wa _ _ rfl) ((h.Xk.and (f.Xk.and (XS.ge 1))).mono fun E K ⟨e1,e,j⟩=> ?_);obtain⟨K,rfl⟩:∃g,K=g+1:=⟨K-1,by omega⟩;simp(decide:=true)only[Xo,Xr,Vx,reduceIte,Nat.reduceAdd,x138,x138_1,Xb,e,X4,e1]
theorem aD {B:Xs}(d:Std B){a q b x y:PL}(g:Xu B 11 [.one q,.one b] (.one x))(h:Xu B 12 [.one a,.one x] (.one y)){e:PL}(i:Sl e []):Xu B 134 [.agg [a,e],.one q,.agg [b,.Xq]] (.agg [y,.Xq]):=by
 refine Xu.of (d.Wa _ _ rfl) ((g.Xk.and (h.Xk.and (d.Xk.and (XS.ge 1)))).mono fun E K ⟨e1,e2,c,k⟩=> ?_);obtain⟨K,rfl⟩:∃f,K=f+1:=⟨K-1,by omega⟩;have j:=i.len;simp(decide:=true)only[Xo,Xr,Vx,reduceIte,Nat.reduceAdd,x134,x134_1,Xb,c,X4,e1,e2,j]
theorem S6 {B:Xs}(d:Std B){p h:PL}{o:M'}(q:TR h o)(k:Vt o)(g:o.length<1000000){f:Z'}(l:PQ p f)(j:f.length<100000){s:Qm}(m:XR o f=some s):Xu B 86 [.agg [p,.Xq],.one h] (.agg (mo s.2)):=by
 obtain⟨c,b,i,a⟩:=VU d q k g l j;rw[m]at a;obtain⟨rfl,a⟩:=a;obtain⟨u,v,w,x,rfl⟩:=a.eight;have n:=a.OK.1;have r:(Xw s.2).take 8=Xw s.2:=Zd (by rw[Xc];omega);have t:(Xw s.2).drop 8=[]:=Zo (by rw[Xc];omega);refine Xu.of (d.Wa _ _ rfl) ((i.Xk.and d.Xk).mono fun E K ⟨e1,e⟩=> ?_);simp(decide:=true)only[Xo,Xr,Vx,reduceIte,Nat.reduceAdd,x86,e,X4,e1,r,n,Wj,Xc,Wb]
theorem ju {B:Xs}(a:Std B){p r:PL}{o:M'}(I:TR r o)(D:Vt o)(i:o.length<1000000){f:Z'}(n:PQ p f)(z:f.length<100000)(G:Sz f){s:Qm}(F:XR o f=some s)(h0:s.1≠0)(y:Sq s.1⁻¹)(j:Sq s.1):∃q,Xu B 89 [.agg [p,.Xq],.one r] (.agg [q,.Xq])/\PQ q (X1 s.1⁻¹ f):=by
 obtain⟨c,b,t,d⟩:=VU a I D i n z;rw[F]at d;obtain⟨rfl,d⟩:=d;obtain⟨M,N,O,P,rfl,u,A⟩:=d;obtain⟨e,v,g⟩:=uD a u j h0;obtain⟨q,w,m⟩:=Oz a g y n G (by omega);have x:=vn a g w;have C:s.1⁻¹≠0:=fun k=>h0 (by rw[<-Rat.inv_inv s.1,k];exact Rat.inv_zero)
 rw[if_neg C]at m;refine⟨q,?_,m⟩;obtain⟨e1,e2,l,L,rfl⟩:=g.len;have H:=A.1;have Q:(Xw s.2).take 8=Xw s.2:=Zd (by rw[Xc];omega);have J:(Xw s.2).drop 8=[]:=Zo (by rw[Xc];omega);refine Xu.of (a.Wa _ _ rfl) ((t.Xk.and (v.Xk.and (x.Xk.and a.Xk))).mono fun E K ⟨e1,e2,l,h⟩=> ?_);simp(decide:=true)only[Xo,Xr,Vx,reduceIte,Nat.reduceAdd,x89,h,X4,e1,e2,l,H,Wj,Xc]
theorem sE {B:Xs}(a:Std B){p g:PL}{o:M'}(k:TR g o)(i:Vt o)(e:o.length<1000000)(j:PQ p []):Xu B 89 [.agg [p,.Xq],.one g] (.agg [p,.Xq]):=by
 obtain⟨c,b,h,f⟩:=VU a k i e j (by simp);simp only[XR]at f;obtain⟨rfl,rfl⟩:=f;refine Xu.of (a.Wa _ _ rfl) ((h.Xk.and a.Xk).mono fun E K ⟨e1,d⟩=> ?_);simp(decide:=true)only[Xo,Xr,Vx,reduceIte,Nat.reduceAdd,x89,d,X4,e1]
theorem BV {B:Xs}(b:Std B){R:PL}(h:QR R):∃r a,Xu B 9 [.agg [R]] (.one r)/\PQ r a/\G2 1 6 2 a:=by
 obtain⟨r,a,e,f,g⟩:=rN b h (d:=1) (tm:=2) (by omega) (by omega);refine⟨r,a,Xu.of (b.Wa _ _ rfl) ((e.Xk.and b.Xk).mono fun E K ⟨e1,c⟩=> ?_),f,g⟩;simp only[Xo,Xr,reduceIte,Nat.reduceEqDiff,Nat.reduceLeDiff,Zw,x9,c,X4,e1]
inductive tL (E:Xa)(d tm:Nat):I'->N'->Prop
 |nil:tL E d tm [] []
 |cons {R r:PL} {ls:I'} {rs:N'} (h1:E.pure 34 [.agg [R],.one (LA 2),.one (LA d),.one (LA tm)]=some (.one r)) (h:tL E d tm ls rs):tL E d tm ([R]::ls) (r::rs)
theorem iK (a:N')(r:PL):pc (Xf a)++[[.p r]]=pc (Xf (a++[r])):=by simp[pc,Xf]
theorem E8 {E:Xa}{K:Nat}(x:E.mode=md){L:PL}{a:I'}(q:Sl L a){d z g:Nat}(N:g<1000):∀(rest:I') (m:N'),tL E d z rest m->
  ∀(i k v:Nat) (o:N') (G:V'),(a.take g).drop i=rest->i+rest.length=(a.take g).length->o.length=i->rest.length<k->
  ∃b f s,Xb E K 0 [0,1,2,3,4,11,12] x33_1 k ⟨[(0,.one (.p L)),(1,LB 2),(2,LB d),(3,LB z),(4,LB g),(11,.one (.own 0 v 0 o.length)),(12,LB i)],⟨false,v,1,pc (Xf o),false,33⟩::G⟩=
   some (.exit 0,⟨b,⟨false,s,1,pc (Xf (o++m)),false,33⟩::f⟩)/\Xh b 11=some (.one (.own 0 s 0 (o++m).length)):=by
 intro rest m h;induction h with
 |nil=>
  intro i k v o G _ w O B;obtain⟨k,rfl⟩:∃y,k=y+1:=⟨k-1,by omega⟩;simp only[Zr,Z0,ZX]at w;have :∃b f,Xb E K 0 [0,1,2,3,4,11,12] x33_1 (k+1) ⟨[(0,.one (.p L)),(1,LB 2),(2,LB d),(3,LB z),(4,LB g),(11,.one (.own 0 v 0 o.length)),(12,LB i)],⟨false,v,1,pc (Xf o),false,33⟩::G⟩=
   some (.exit 0,⟨b,⟨false,v,1,pc (Xf o),false,33⟩::f⟩)/\Xh b 11=some (.one (.own 0 v 0 o.length)):=by
   by_cases c:i<a.length
   ·have J:¬i<g:=by omega
    apply DU
    ·rw[Xb];simp only[Xo,Xr,reduceIte,Nat.reduceEqDiff,x33_1,q.len,c,J];rfl
    ·simp only[Xo,reduceIte,Nat.reduceEqDiff]
   ·apply DU
    ·rw[Xb];simp only[Xo,Xr,reduceIte,Nat.reduceEqDiff,x33_1,q.len,c];rfl
    ·simp only[Xo,reduceIte,Nat.reduceEqDiff]
  obtain⟨b,f,n,t⟩:=this;exact⟨b,f,v,by simpa using n,by simpa using t⟩
 |@cons R r S m I h P=>
  intro i k v o G u w O B;obtain⟨k,rfl⟩:∃y,k=y+1:=⟨k-1,by omega⟩;simp only[Zi,ZX]at w B;have c:i<a.length:=by omega
  have e:i<g:=by omega
  obtain⟨A,C⟩:=Xi u;have j:a[i]? =some [R]:=by rw[Z8,if_pos e]at A;exact A
  have l:=fun(M:HF) (Q:IntKind)=>q.idx (h:=M) (k:=Q) (sz:=1) j rfl
  have D:Xe .i64 (.ofNat (i+1))=.ofNat (i+1):=wrap_i64 (by omega);have F:(o.length+1)*24<=lim:=by unfold lim;omega
  have H:o.length+1<=9223372036854775807:=by omega
  obtain⟨b,f,s,n,t⟩:=P (i+1) k (v+1) (o++[r]) (G++[⟨false,0,1,[[.p r]],false,33⟩]) C (by rw[ZX];omega) (by simp;omega) (by omega);refine⟨b,f,s,?_,by simpa using t⟩;rw[Zq,ZY,Zm,ZO]at n;rw[Xb];simp only[Xo,Vx,kT,Xr,VR,reduceIte,Nat.reduceEqDiff,Nat.reduceLT,x33_1,q.len,c,e,l,x,X4,I,D,F,H,Wm,Xt,iK];exact n
theorem mj {B:Xs}(j:Std B){d g:Nat}(k:d<100)(b:g<1000):∀{ls:I'},(∀c∈ls,∃R,c=[R]/\QR R)->∃e a,(XS B fun E _=>tL E d g ls e)/\VS e a/\(∀f∈a,G2 d (g*3) g f)/\e.length=ls.length
 |[],_=>⟨[],[],XS.of fun _ _=>.nil,.nil,(fun _ h=>by cases h),rfl⟩
 |c::ls,h=>by
  obtain⟨R,rfl,q⟩:=h c (Zc ..);obtain⟨r,v,l,m,t⟩:=rN j q k b;obtain⟨e,a,n,o,u,p⟩:=mj j k b fun c s=>h c (Zb _ s)
  exact⟨r::e,v::a,(n.and l.Xk).mono fun E K ⟨e1,e2⟩=>.cons e2 e1,.cons m o,(fun f i=>by rcases Zj.1 i with rfl|i;exact t;exact u f i),by simp[p]⟩
def gr (L:PL):Prop:=∃ls,Sl L ls/\∀c∈ls,∃R,c=[R]/\QR R
theorem Cl {B:Xs}(i:Std B){L:PL}(s:gr L){d tm mx:Nat}(u:d<100)(n:tm<1000)(l:mx<1000):
  ∃a b,Xu B 33 [.one L,.one (LA 2),.one (LA d),.one (LA tm),.one (LA mx)] (.one (.Xn (Xf a)))/\VS a b/\(∀f∈b,G2 d (tm*3) tm f)/\a.length<=mx:=by
 obtain⟨g,x,j⟩:=s;obtain⟨a,b,q,r,e,A⟩:=mj i u n (ls:=g.take mx) fun c t=>j c (YC t)
 have p:(g.take mx).length<=mx:=by rw[ZX];omega
 refine⟨a,b,Xu.of (i.Wa _ _ rfl) ((q.and (i.Xk.and (XS.ge (mx+1)))).mono fun E K ⟨e1,k,C⟩=> ?_),r,e,by omega⟩;obtain⟨z,y,D,o,e⟩:=E8 (K:=K) k x l (g.take mx) a e1 0 K 0 [] [] (by simp) (by simp) rfl (by omega);have w:(pc (Xf a)).take a.length=pc (Xf a):=WV (Xf a) (by rw[Xt];exact Ze _);have v:=fun h=>Ve 5 h (Xf a)
 have m:pc (Xf [])=[]:=rfl;rw[m]at o;simp only[ZF,Zr]at o e;simp only[Xo,Xr,reduceIte,Nat.reduceEqDiff,Nat.reduceLeDiff,Nat.reduceAdd,x33,o,e,w,v,Wm,Xt,Ze]
theorem yU {B:Xs}(c:Std B){L k:PL}(l:gr L):
  ∃b a,Xu B 8 [.agg [L,k]] (.one (.Xn (Xf b)))/\VS b a/\(∀f∈a,G2 2 9 3 f)/\b.length<=3:=by
 obtain⟨b,a,g,h,i,j⟩:=Cl c l (d:=2) (tm:=3) (mx:=3) (by omega) (by omega) (by omega);refine⟨b,a,Xu.of (c.Wa _ _ rfl) ((g.Xk.and c.Xk).mono fun E K ⟨e1,e⟩=> ?_),h,i,j⟩;simp only[Xo,Xr,reduceIte,Nat.reduceEqDiff,Nat.reduceLeDiff,Nat.reduceAdd,Zw,x8,e,X4,e1]
theorem II {n:Nat}(h:n<1000000):(n+1)*48<=lim/\(n+1)*24<=lim/\n+1<=9223372036854775807:=by
 have e:lim=140737488355328:=by decide
 rw[e];refine⟨?_,?_,?_⟩<;>omega
theorem Rb (a:N'):(pc (Ub a)).length=a.length:=by simp[pc,Ub]
theorem oj (a:N'):(pc (Xf a)).length=a.length:=by simp[pc,Xf]
theorem qc {E:Xa}{h:HF}{f:Nat}{a:X'}{id XM j:Nat}{b:Xx}{d:DV}{G:V'}{r:PV}(o:TV a=some (id,XM,j))(s:RO a=true)(k:h id=some b)(q:b.XM=XM)(i:b.mp=false)(g:b.fz=false)(p:b.ch.all Wc=true)(m:E.heap f (RD a) [b]=some (d,b::G))(l:XT (Xj (b::G)) d=some r)(n:(SK (Xj (b::G)) d).contains 0=false):WI E h f a=some ⟨inj r,[],[(id,b)],[id]⟩:=by
 unfold WI;have c:Nat.beq b.XM XM=true:=by rw[q];exact YA XM
 have e:Nat.beq b.XM b.XM=true:=YA b.XM;simp only[o,s,cond_true,k,c,i,g,p,m,l,n,e,Bool.not_false,Bool.and_true]
theorem kZ {E:Xa}{h:HF}{f:Nat}{a:X'}{d:DV}{G:V'}{r:PV}(e:TV a=none)(g:a.all SP=true)(c:E.heap f a []=some (d,G))(b:XT (Xj G) d=some r):WI E h f a=some ⟨inj r,[],[],[]⟩:=by
 unfold WI;simp only[e,g,cond_true,c,b]
theorem Nd:∀(a:N'),(pc (Ub a)).all Wc=true
 |[]=>rfl
 |p::a=>by
  have:=Nd a;simp only[pc,Ub,Zt,List.all_cons,List.map_map]at this⊢;rw[this];rfl
abbrev Oh (v:Nat)(o:N'):Xx:=⟨false,v,1,pc (Xf o),false,33⟩
theorem xz {H:V'}{id:Nat}{a:N'}{v:Nat}(h:H[id]? =some (Oh v a)):XT (Xj H) (.one (.own id v 0 a.length))=some (.one (.Xn (Xf a))):=by
 have c:(pc (Xf a)).take a.length=pc (Xf a):=WV (Xf a) (by rw[Xt];exact Ze _);have b:=fun h=>Ve 5 h (Xf a)
 simp only[Xo,Xr,h,c,b,oj,Ze]
theorem Fi {H:V'}{id:Nat}{a:N'}{v:Nat}(h:H[id]? =some (Oh v a)):SK (Xj H) (.one (.own id v 0 a.length))=[id]:=by
 have c:(pc (Xf a)).take a.length=pc (Xf a):=WV (Xf a) (by rw[Xt];exact Ze _);have b:=fun n h=>OU n h (Xf a)
 simp only[Xo,h,c,b]
theorem zK {E:Xa}{K:Nat}(A:E.mode=md){L:PL}{a:N'}(r:Sl L (Ub a))(H:a.length<100000):∀(rest:N') (i k:Nat) (o:N') (G:V'),a.drop i=rest->i+rest.length=a.length->o.length=i->rest.length<k->
  ∃c j,Xb E K 0 [0,3,4] x44_1 k ⟨[(0,.one (.p L)),(3,.one (.own 0 i 0 o.length)),(4,LB i)],Oh i o::G⟩=
   some (.exit 0,⟨c,Oh a.length (o++rest)::j⟩)/\Xh c 3=some (.one (.own 0 a.length 0 (o++rest).length)):=by
 intro rest;induction rest with
 |nil=>
  intro i k o G _ g B s;obtain⟨k,rfl⟩:∃q,k=q+1:=⟨k-1,by omega⟩;simp only[Zr,Z0]at g;subst g;have b:=r.len;rw[ZE];have :∃c,Xb E K 0 [0,3,4] x44_1 (k+1) ⟨[(0,.one (.p L)),(3,.one (.own 0 a.length 0 o.length)),(4,LB a.length)],Oh a.length o::G⟩=some (.exit 0,⟨c,Oh a.length o::G⟩)/\Xh c 3=some (.one (.own 0 a.length 0 o.length)):=by
   apply VO
   ·rw[Xb];simp only[Xo,Xr,reduceIte,Nat.reduceEqDiff,x44_1,b,Vg,Zv];rfl
   ·simp only[Xo,reduceIte,Nat.reduceEqDiff]
  obtain⟨c,d,f⟩:=this;exact⟨c,G,d,f⟩
 |cons p rest C=>
  intro i k o G y g B s;obtain⟨k,rfl⟩:∃q,k=q+1:=⟨k-1,by omega⟩;simp only[Zi]at g s;obtain⟨x,w⟩:=Xi y;have m:i<a.length:=by omega
  have b:=r.len;have D:=fun(z:HF) (F:IntKind)=>r.idx (h:=z) (k:=F) (sz:=2) (NL x) rfl
  have t:Xe .i64 (.ofNat (i+1))=.ofNat (i+1):=wrap_i64 (by omega);obtain⟨-,u,v⟩:=II (n:=o.length) (by omega);have this:∃l,Xb E K 0 [0,3,4] x44_1 (k+1) ⟨[(0,.one (.p L)),(3,.one (.own 0 i 0 o.length)),(4,LB i)],Oh i o::G⟩=Xb E K 0 [0,3,4] x44_1 k ⟨[(0,.one (.p L)),(3,.one (.own 0 (i+1) 0 (o++[p]).length)),(4,LB (i+1))],Oh (i+1) (o++[p])::l⟩:=by
   simp only[Oh];rw[<-iK];apply Exists.intro;rw[Xb];simp(decide:=true)only[Xo,kT,Xr,reduceIte,Nat.reduceAdd,x44_1,b,Vg,m,D,t,u,v,oj,Zm];rfl
  obtain⟨l,e⟩:=this;obtain⟨c,j,d,f⟩:=C (i+1) k (o++[p]) l w (by omega) (by simp;omega) (by omega);rw[Zq,ZY]at d f;exact⟨c,j,e.trans d,f⟩
theorem Ut.fE {B:Xs}{f:Nat}{ad:X'}{H:V'}{b:Vl}{P:DV->V'->Prop}(i:B.X f=some b)(h:XS B fun E K=>∃d a,VD E K b ad H=some (d,a)/\P d a):∃d a,Ut B f ad H d a/\P d a:=by
 obtain⟨N,g⟩:=h;obtain⟨d,a,c,e⟩:=g N N (Ze _) (Ze _);refine⟨d,a,⟨N,N+1,?_⟩,e⟩;show(match B.X f with
  |some b=>VD (B.E N N) N b ad H
  |none=>(B.E N N).heap f ad H)=some (d,a)
 rw[i];exact c
theorem eS {B:Xs}(h:Std B){L:PL}{a:N'}(m:Sl L (Ub a))(l:a.length<100000):∃G,Ut B 44 [.one (.p L)] [] (.one (.own 0 a.length 0 a.length)) (Oh a.length a::G):=by
 obtain⟨d,g,k,G,rfl,rfl⟩:=Ut.fE (f:=44) (ad:=[.one (.p L)]) (H:=[]) (P:=fun d g=>∃G,d=.one (.own 0 a.length 0 a.length)/\g=Oh a.length a::G) (h.Wa _ _ rfl) ((h.Xk.and (XS.ge (a.length+1))).mono fun E K ⟨b,o⟩=>by
  obtain⟨n,j,e,i⟩:=zK (K:=K) b m l a 0 K [] [] rfl (by omega) rfl (by omega);rw[ZF]at e i;have c:pc (Xf [])=[]:=rfl;simp only[Oh,c,Zr]at e;refine⟨_,_,?_,j,rfl,rfl⟩;simp(decide:=true)only[Xo,Xr,Vx,reduceIte,x44,e,i])
 exact⟨G,k⟩
theorem vo {E:Xa}{K:Nat}(x:E.mode=md){a:N'}{v:Nat}(B:a.length<100000):∀(rest:N') (i k:Nat) (o:N') (G:V'),a.drop i=rest->i+rest.length=a.length->o.length=i->rest.length<k->
  ∃b g,Xb E K 0 [0,3,4] x44_1 k ⟨[(0,.one (.own 0 v 0 a.length)),(3,.one (.own 1 i 0 o.length)),(4,LB i)],Ud v a::Oh i o::G⟩=
   some (.exit 0,⟨b,Ud v a::Oh a.length (o++rest)::g⟩)/\Xh b 3=some (.one (.own 1 a.length 0 (o++rest).length)):=by
 intro rest;induction rest with
 |nil=>
  intro i k o G _ f y m;obtain⟨k,rfl⟩:∃l,k=l+1:=⟨k-1,by omega⟩;simp only[Zr,Z0]at f;subst f;rw[ZE];have :∃b,Xb E K 0 [0,3,4] x44_1 (k+1) ⟨[(0,.one (.own 0 v 0 a.length)),(3,.one (.own 1 a.length 0 o.length)),(4,LB a.length)],Ud v a::Oh a.length o::G⟩=some (.exit 0,⟨b,Ud v a::Oh a.length o::G⟩)/\Xh b 3=some (.one (.own 1 a.length 0 o.length)):=by
   apply VO
   ·rw[Xb];simp only[Xo,Xr,reduceIte,Nat.reduceEqDiff,x44_1,Zv];rfl
   ·simp only[Xo,reduceIte,Nat.reduceEqDiff]
  obtain⟨b,c,d⟩:=this;exact⟨b,G,c,d⟩
 |cons p rest z=>
  intro i k o G w f y m;obtain⟨k,rfl⟩:∃l,k=l+1:=⟨k-1,by omega⟩;simp only[Zi]at f m;obtain⟨u,t⟩:=Xi w;have j:i<a.length:=by omega
  have A:(pc (Ub a))[i]? =some [.p p,.p .Xq]:=by simp[pc,Ub,u]
  have q:Xe .i64 (.ofNat (i+1))=.ofNat (i+1):=wrap_i64 (by omega);obtain⟨-,r,s⟩:=II (n:=o.length) (by omega);have this:∃h,Xb E K 0 [0,3,4] x44_1 (k+1) ⟨[(0,.one (.own 0 v 0 a.length)),(3,.one (.own 1 i 0 o.length)),(4,LB i)],Ud v a::Oh i o::G⟩=Xb E K 0 [0,3,4] x44_1 k ⟨[(0,.one (.own 0 v 0 a.length)),(3,.one (.own 1 (i+1) 0 (o++[p]).length)),(4,LB (i+1))],Ud v a::Oh (i+1) (o++[p])::h⟩:=by
   simp only[Oh];rw[<-iK];apply Exists.intro;rw[Xb];simp(decide:=true)only[Xo,kT,Xr,reduceIte,Nat.reduceAdd,x44_1,j,A,q,r,s,oj,Zm];rfl
  obtain⟨h,e⟩:=this;obtain⟨b,g,c,d⟩:=z (i+1) k (o++[p]) h t (by omega) (by simp;omega) (by omega);rw[Zq,ZY]at c d;exact⟨b,g,e.trans c,d⟩
theorem oJ {B:Xs}(h:Std B){a:N'}{v:Nat}(l:a.length<100000):∃G,Ut B 44 [.one (.own 0 v 0 a.length)] [Ud v a] (.one (.own 1 a.length 0 a.length)) (Ud v a::Oh a.length a::G):=by
 obtain⟨d,g,k,G,rfl,rfl⟩:=Ut.fE (f:=44) (ad:=[.one (.own 0 v 0 a.length)]) (H:=[Ud v a]) (P:=fun d g=>∃G,d=.one (.own 1 a.length 0 a.length)/\g=Ud v a::Oh a.length a::G) (h.Wa _ _ rfl) ((h.Xk.and (XS.ge (a.length+1))).mono fun E K ⟨b,n⟩=>by
  obtain⟨m,j,e,i⟩:=vo (K:=K) b (v:=v) l a 0 K [] [] rfl (by omega) rfl (by omega);rw[ZF]at e i;have c:pc (Xf [])=[]:=rfl;simp only[Oh,c,Zr]at e;refine⟨_,_,?_,j,rfl,rfl⟩;simp(decide:=true)only[Xo,Xr,Vx,reduceIte,Nat.reduceAdd,x44,e,i])
 exact⟨G,k⟩
theorem sC {B:Xs}(c:Std B){L:PL}{a:N'}(f:Sl L (Ub a))(d:a.length<100000):XS B fun E _=>∀h,WI E h 44 [.one (.p L)]=some ⟨.one (.p (.Xn (Xf a))),[],[],[]⟩:=by
 obtain⟨G,b⟩:=eS c f d;exact b.Xk.mono fun E K e h=>kZ rfl rfl e (xz rfl)
theorem oI {B:Xs}(c:Std B){a:N'}{v:Nat}(f:a.length<100000):XS B fun E _=>∀h,h 0=some (Ud v a)->WI E h 44 [.one (.own 0 v 0 a.length)]=some ⟨.one (.p (.Xn (Xf a))),[],[(0,Ud v a)],[0]⟩:=by
 obtain⟨G,b⟩:=oJ c (v:=v) f;exact b.Xk.mono fun E K e h d=>qc rfl rfl d rfl rfl rfl (Nd a) e (xz (id:=1) rfl) (by rw[Fi (id:=1) rfl];rfl)
theorem Nc:∀(a:N'),(pc (Xf a)).all Wc=true
 |[]=>rfl
 |p::a=>by
  have:=Nc a;simp only[pc,Xf,Zt,List.all_cons,List.map_map]at this⊢;rw[this];rfl
theorem oH {B:Xs}(c:Std B){L:PL}{a:N'}(g:Sl L (Ub a))(d:a.length<100000):XS B fun E _=>∀H,TX E 44 [.one (.p L)] H=some (.one (.own H.length a.length 0 a.length),H++[Oh a.length a]):=by
 obtain⟨G,b⟩:=eS c g d;exact b.Xk.mono fun E K e H=>by
  unfold TX;have f:=Nc a;simp only[TV,List.all_cons,List.all_nil,SP,Bool.and_true,cond_true,e,Ym,f,Bool.not_false]
def Uh {α:Type}:List α->Nat->Nat->List α
 |[],_,_=>[]
 |p::ps,i,at'=>if i=at' then Uh ps (i+1) at' else p::Uh ps (i+1) at'
theorem ru {c:Type}:∀(b:List c) (i a:Nat),(Uh b i a).length<=b.length
 |[],_,_=>Ze _
 |p::b,i,a=>by
  have:=ru b (i+1) a;unfold Uh;split<;>simp<;>omega
abbrev Hv (L:PL)(a v n i:Nat):List (Nat×DV):=[(0,.one (.p L)),(1,LB a),(5,.one (.own 0 v 0 n)),(6,LB i)]
theorem vp {E:Xa}{K:Nat}(J:E.mode=md){L:PL}{b:N'}(w:Sl L (Ub b))(P:b.length<100000){a:Nat}:∀(rest:N') (i k v:Nat) (o:N') (G:V'),b.drop i=rest->i+rest.length=b.length->o.length<=i->rest.length<k->
  ∃d l j,Xb E K 0 [0,1,5,6] x83_1 k ⟨Hv L a v o.length i,Ud v o::G⟩=
   some (.exit 0,⟨d,Ud j (o++Uh rest i a)::l⟩)/\Xh d 5=some (.one (.own 0 j 0 (o++Uh rest i a).length)):=by
 intro rest;induction rest with
 |nil=>
  intro i k v o G _ t M z;obtain⟨k,rfl⟩:∃u,k=u+1:=⟨k-1,by omega⟩;simp only[Zr,Z0]at t;subst t;have c:=w.len;have B:Uh ([]:N') b.length a=[]:=rfl;rw[B,ZE];have :∃d,Xb E K 0 [0,1,5,6] x83_1 (k+1) ⟨Hv L a v o.length b.length,Ud v o::G⟩=some (.exit 0,⟨d,Ud v o::G⟩)/\Xh d 5=some (.one (.own 0 v 0 o.length)):=by
   apply VO
   ·rw[Xb];simp only[Xo,Xr,reduceIte,Nat.reduceEqDiff,x83_1,c,Vg,Zv];rfl
   ·simp only[Xo,reduceIte,Nat.reduceEqDiff]
  obtain⟨d,m,q⟩:=this;exact⟨d,G,v,m,q⟩
 |cons p rest A=>
  intro i k v o G H t M z;obtain⟨k,rfl⟩:∃u,k=u+1:=⟨k-1,by omega⟩;simp only[Zi]at t z;obtain⟨F,y⟩:=Xi H;have s:i<b.length:=by omega
  have c:=w.len;have N:=fun(I:HF) (O:IntKind)=>w.idx (h:=I) (k:=O) (sz:=2) (NL F) rfl
  have x:Xe .i64 (.ofNat (i+1))=.ofNat (i+1):=wrap_i64 (by omega);obtain⟨C,-,D⟩:=II (n:=o.length) (by omega);by_cases g:i=a
  ·subst g;have e1:Uh (p::rest) i i=Uh rest (i+1) i:=by simp[Uh]
   have this:∃f,Xb E K 0 [0,1,5,6] x83_1 (k+1) ⟨Hv L i v o.length i,Ud v o::G⟩=Xb E K 0 [0,1,5,6] x83_1 k ⟨Hv L i v o.length (i+1),Ud v o::f⟩:=by
    apply Exists.intro;rw[Xb];simp(decide:=true)only[Xo,Xr,reduceIte,x83_1,c,Vg,s,x];rfl
   obtain⟨f,e⟩:=this;obtain⟨d,l,j,m,q⟩:=A (i+1) k v o f y (by omega) (by omega) (by omega);rw[e1];exact⟨d,l,j,e.trans m,q⟩
  ·have e1:o++Uh (p::rest) i a=(o++[p])++Uh rest (i+1) a:=by simp[Uh,g]
   have r:¬i=a:=g;have this:∃f,Xb E K 0 [0,1,5,6] x83_1 (k+1) ⟨Hv L a v o.length i,Ud v o::G⟩=Xb E K 0 [0,1,5,6] x83_1 k ⟨Hv L a (v+1) (o++[p]).length (i+1),Ud (v+1) (o++[p])::f⟩:=by
    rw[jK];apply Exists.intro;rw[Xb];simp(decide:=true)only[Xo,kT,Xr,reduceIte,Nat.reduceAdd,x83_1,c,Vg,s,r,N,x,C,D,Rb,Zm];rfl
   obtain⟨f,e⟩:=this;obtain⟨d,l,j,m,q⟩:=A (i+1) k (v+1) (o++[p]) f y (by omega) (by simp;omega) (by omega);rw[e1];exact⟨d,l,j,e.trans m,q⟩
theorem eT {B:Xs}(f:Std B){L:PL}{b:N'}(l:Sl L (Ub b))(j:b.length<100000)(a:Nat):Xu B 83 [.one L,.one (LA a)] (.one (.Xn (Ub (Uh b 0 a)))):=by
 refine Xu.of (f.Wa _ _ rfl) ((f.Xk.and (XS.ge (b.length+1))).mono fun E K ⟨c,o⟩=> ?_);obtain⟨n,m,p,e,g⟩:=vp (K:=K) c l j (a:=a) b 0 K 0 [] [] rfl (by omega) (by simp) (by omega);rw[ZF]at e g;generalize Uh b 0 a=qs at *;have k:(pc (Ub qs)).take qs.length=pc (Ub qs):=WV (Ub qs) (by rw[Vg];exact Ze _);have i:=fun h=>Ve 5 h (Ub qs)
 have d:pc (Ub [])=[]:=rfl;simp only[Hv,Ud,d,Zr]at e;simp(decide:=true)only[Xo,Xr,reduceIte,Nat.reduceAdd,x83,e,g,k,i,Rb,Ze]
inductive QZ (E:Xa)(lo:PL):N'->N'->Prop
 |nil:QZ E lo [] []
 |skip {p:PL} {ls qs:N'} (sl:Sl p []) (h:QZ E lo ls qs):QZ E lo (p::ls) qs
 |new {p q:PL} {es:I'} {ls qs:N'} (sl:Sl p es) (he:0<es.length) (hm:E.pure 89 [.agg [p,.Xq],.one lo]=some (.agg [q,.Xq])) (h:QZ E lo ls qs):QZ E lo (p::ls) (q::qs)
abbrev Hr (L lo:PL)(v n i:Nat):List (Nat×DV):=[(0,.one (.p L)),(1,.one (.p lo)),(5,.one (.own 0 v 0 n)),(6,LB i)]
theorem zL {E:Xa}{K:Nat}(C:E.mode=md){L m:PL}{b:N'}(v:Sl L (Xf b))(S:b.length<100000):∀{rest d:N'},QZ E m rest d->∀(i k:Nat) (o:N') (G:V'),b.drop i=rest->i+rest.length=b.length->o.length<=i->rest.length<k->
  ∃c t,Xb E K 0 [0,1,5,6] x47_1 k ⟨Hr L m o.length o.length i,Ud o.length o::G⟩=
   some (.exit 0,⟨c,Ud (o++d).length (o++d)::t⟩)/\Xh c 5=some (.one (.own 0 (o++d).length 0 (o++d).length)):=by
 intro rest d h;induction h with
 |nil=>
  intro i k o G _ s J w;obtain⟨k,rfl⟩:∃u,k=u+1:=⟨k-1,by omega⟩;simp only[Zr,Z0]at s;subst s;have a:=v.len;rw[ZE];have :∃c,Xb E K 0 [0,1,5,6] x47_1 (k+1) ⟨Hr L m o.length o.length b.length,Ud o.length o::G⟩=some (.exit 0,⟨c,Ud o.length o::G⟩)/\Xh c 5=some (.one (.own 0 o.length 0 o.length)):=by
   apply VO
   ·rw[Xb];simp only[Xo,Xr,reduceIte,Nat.reduceEqDiff,x47_1,a,Xt,Zv];rfl
   ·simp only[Xo,reduceIte,Nat.reduceEqDiff]
  obtain⟨c,g,r⟩:=this;exact⟨c,G,g,r⟩
 |@skip p Q d I h D=>
  intro i k o G A s J w;obtain⟨k,rfl⟩:∃u,k=u+1:=⟨k-1,by omega⟩;simp only[Zi]at s w;obtain⟨z,y⟩:=Xi A;have j:i<b.length:=by omega
  have a:=v.len;have l:=I.len;have F:=fun(B:HF) (H:IntKind)=>v.idx (h:=B) (k:=H) (sz:=1) (XY z) rfl
  have x:Xe .i64 (.ofNat (i+1))=.ofNat (i+1):=wrap_i64 (by omega);have this:∃f,Xb E K 0 [0,1,5,6] x47_1 (k+1) ⟨Hr L m o.length o.length i,Ud o.length o::G⟩=Xb E K 0 [0,1,5,6] x47_1 k ⟨Hr L m o.length o.length (i+1),Ud o.length o::f⟩:=by
   apply Exists.intro;rw[Xb];simp(decide:=true)only[Xo,Xr,reduceIte,x47_1,a,l,Xt,j,F,x];rfl
  obtain⟨f,e⟩:=this;obtain⟨c,t,g,r⟩:=D (i+1) k o f y (by omega) (by omega) (by omega);exact⟨c,t,e.trans g,r⟩
 |@new p q R Q d I O P h D=>
  intro i k o G A s J w;obtain⟨k,rfl⟩:∃u,k=u+1:=⟨k-1,by omega⟩;simp only[Zi]at s w;obtain⟨z,y⟩:=Xi A;have j:i<b.length:=by omega
  have a:=v.len;have l:=I.len;have F:=fun(B:HF) (H:IntKind)=>v.idx (h:=B) (k:=H) (sz:=1) (XY z) rfl
  have x:Xe .i64 (.ofNat (i+1))=.ofNat (i+1):=wrap_i64 (by omega);obtain⟨M,-,N⟩:=II (n:=o.length) (by omega);have this:∃f,Xb E K 0 [0,1,5,6] x47_1 (k+1) ⟨Hr L m o.length o.length i,Ud o.length o::G⟩=Xb E K 0 [0,1,5,6] x47_1 k ⟨Hr L m (o.length+1) (o++[q]).length (i+1),Ud (o.length+1) (o++[q])::f⟩:=by
   rw[jK];apply Exists.intro;rw[Xb];simp(decide:=true)only[Xo,Vx,kT,Xr,reduceIte,Nat.reduceAdd,x47_1,a,l,O,P,Xt,j,F,C,X4,x,M,N,Rb,Zm];rfl
  obtain⟨f,e⟩:=this;obtain⟨c,t,g,r⟩:=D (i+1) k (o++[q]) f y (by omega) (by simp;omega) (by omega);rw[Zq,ZY]at g r;rw[show(o++[q]).length=o.length+1 by simp]at g e;exact⟨c,t,e.trans g,r⟩
theorem sD {B:Xs}(k:Std B){L i:PL}{b a:N'}(r:Sl L (Xf b))(q:b.length<100000)(h:XS B fun E _=>QZ E i b a):∃G,Ut B 47 [.one (.p L),.one (.p i)] [] (.one (.own 0 a.length 0 a.length)) (Ud a.length a::G):=by
 obtain⟨d,j,o,G,rfl,rfl⟩:=Ut.fE (f:=47) (ad:=[.one (.p L),.one (.p i)]) (H:=[]) (P:=fun d j=>∃G,d=.one (.own 0 a.length 0 a.length)/\j=Ud a.length a::G) (k.Wa _ _ rfl) ((h.and (k.Xk.and (XS.ge (b.length+1)))).mono fun E K ⟨n,c,t⟩=>by
  obtain⟨s,m,g,l⟩:=zL (K:=K) c r q n 0 K [] [] rfl (by omega) (by simp) (by omega);rw[ZF]at g l;have e:pc (Ub [])=[]:=rfl;simp only[Hr,Ud,e,Zr]at g;refine⟨_,_,?_,m,rfl,rfl⟩;simp(decide:=true)only[Xo,Xr,Vx,reduceIte,Nat.reduceAdd,x47,g,l,Ud])
 exact⟨G,o⟩
theorem RV {a:N'}{i:Nat}{p:PL}(h:a[i]? =some p):(pc (Ub a))[i]? =some [.p p,.p .Xq]:=by simp[pc,Ub,h]
abbrev FN (lo:PL)(v n k i:Nat):List (Nat×DV):=[(0,.one (.own 0 v 0 n)),(1,.one (.p lo)),(5,LB k),(6,LB i)]
structure ID (E:Xa)(lo p q:PL)(m n g:P'):Prop where
 m8:m.length=8
 n8:n.length=8
 g8:g.length=8
 h1:E.pure 86 [.agg [p,.Xq],.one lo]=some (.agg (mo m))
 h2:E.pure 86 [.agg [q,.Xq],.one lo]=some (.agg (mo n))
 h3:E.pure 87 [.agg (mo m),.agg (mo n)]=some (.agg (mo g))
theorem FM {E:Xa}{K k0 k i:Nat}(f:E.mode=md){j p q:PL}{a:N'}(s:a[i]? =some p)(t:a[k]? =some q)(c:i<k)(Y:a.length<100000){m n g:P'}(R:ID E j p q m n g)(h:g=Tz)(G:V'):
  ∃N,Xb E K 0 [0,1,5,6] x46_1 (k0+1) ⟨FN j a.length a.length k i,Ud a.length a::G⟩=Xb E K 0 [0,1,5,6] x46_1 k0 ⟨FN j a.length a.length k (i+1),Ud a.length a::N⟩:=by
 obtain⟨T,U,S,l,o,b⟩:=R;have V:=RV s;have W:=RV t;have d:i<a.length:=(Zf.mp s).1;have e:k<a.length:=(Zf.mp t).1;have r:=UT S (n:=Tz) rfl;have P:Xe .i64 (.ofNat (i+1))=.ofNat (i+1):=wrap_i64 (by omega);have Z:(Xw g).take 8=Xw g:=Zd (by rw[Xc];omega);obtain⟨u,v,w,x,y,z,A,B,rfl⟩:=eight T;obtain⟨C,D,F,H,I,J,L,M,rfl⟩:=eight U;have O:mo [u,v,w,x,y,z,A,B]=[LA u,LA v,LA w,LA x,LA y,LA z,LA A,LA B]:=rfl;have Q:mo [C,D,F,H,I,J,L,M]=[LA C,LA D,LA F,LA H,LA I,LA J,LA L,LA M]:=rfl;have X:Xw Tz=[.p (LA 0),.p (LA 0),.p (LA 0),.p (LA 0),.p (LA 0),.p (LA 0),.p (LA 0),.p (LA 0)]:=rfl;rw[X]at r;rw[O]at l b;rw[Q]at o b;have h:=decide_eq_true h;apply Exists.intro;rw[Xb];simp(decide:=true)only[Xo,Xr,VR,Vx,reduceIte,Nat.reduceEqDiff,Nat.reduceLeDiff,Nat.reduceAdd,x46_1,f,X4,c,d,e,V,W,l,o,b,r,h,P,Wj];rfl
theorem FL {E:Xa}{K k0 k i:Nat}(o:E.mode=md){b p q s r:PL}{a:N'}(y:a[i]? =some p)(z:a[k]? =some q)(f:i<k)(hl:a.length<100000){m n g:P'}(X:ID E b p q m n g)(u:g≠Tz)
  (W:E.pure 88 [.agg [p,.Xq],.agg [q,.Xq],.one b]=some (.agg [s,.Xq])) (e:∀h,h 0=some (Ud a.length a)->WI E h 84 [.agg [.p s,.p .Xq],.one (.own 0 a.length 0 a.length),.one (.p b)]=some ⟨.agg [.p r,.p .Xq],[],[(0,Ud a.length a)],[0]⟩) (hr:Sl r []) (G:V'):
  ∃c,Xb E K 0 [0,1,5,6] x46_1 (k0+1) ⟨FN b a.length a.length k i,Ud a.length a::G⟩=Xb E K 0 [0,1,5,6] x46_1 k0 ⟨FN b a.length a.length k (i+1),Ud a.length a::c⟩:=by
 obtain⟨Z,hn,Y,v,w,d⟩:=X;have e:=fun c=>e (Xj (Ud a.length a::c)) rfl
 have ip:=RV y;have iq:=RV z;have j:i<a.length:=(Zf.mp y).1;have l:k<a.length:=(Zf.mp z).1;have t:=hr.len;have x:=UT Y (n:=Tz) rfl;have U:Xe .i64 (.ofNat (i+1))=.ofNat (i+1):=wrap_i64 (by omega);have tg:(Xw g).take 8=Xw g:=Zd (by rw[Xc];omega);have ht:(pc (Ub a)).take a.length=pc (Ub a):=WV (Ub a) (by rw[Vg];exact Ze _);have hf:=fun h=>Ve 5 h (Ub a)
 have hd:=OU;obtain⟨A,B,C,D,F,H,I,J,rfl⟩:=eight Z;obtain⟨L,M,N,O,P,Q,R,S,rfl⟩:=eight hn;have T:mo [A,B,C,D,F,H,I,J]=[LA A,LA B,LA C,LA D,LA F,LA H,LA I,LA J]:=rfl;have V:mo [L,M,N,O,P,Q,R,S]=[LA L,LA M,LA N,LA O,LA P,LA Q,LA R,LA S]:=rfl;have z8:Xw Tz=[.p (LA 0),.p (LA 0),.p (LA 0),.p (LA 0),.p (LA 0),.p (LA 0),.p (LA 0),.p (LA 0)]:=rfl;rw[z8]at x;rw[T]at v d;rw[V]at w d;have u:=decide_eq_false u;apply Exists.intro;rw[Xb];simp(decide:=true)only[Xo,Xr,VR,Vx,kT,reduceIte,Nat.reduceEqDiff,Nat.reduceLeDiff,Nat.reduceAdd,x46_1,o,X4,f,j,l,ip,iq,v,w,d,W,e,t,x,u,U,Wj,Zm,Ze];rfl
theorem Ii {E:Xa}{K k0 k i:Nat}(t:E.mode=md){b p q s r:PL}{a:N'}{w:I'}(A:a[i]? =some p)(B:a[k]? =some q)(j:i<k)(hl:a.length<100000){m n g:P'}(hc:ID E b p q m n g)(v:g≠Tz)
  (h4:E.pure 88 [.agg [p,.Xq],.agg [q,.Xq],.one b]=some (.agg [s,.Xq])) (e:∀h,h 0=some (Ud a.length a)->WI E h 84 [.agg [.p s,.p .Xq],.one (.own 0 a.length 0 a.length),.one (.p b)]=some ⟨.agg [.p r,.p .Xq],[],[(0,Ud a.length a)],[0]⟩) (hr:Sl r w) (f:0<w.length) (G:V'):
  ∃c,Xb E K 0 [0,1,5,6] x46_1 (k0+1) ⟨FN b a.length a.length k i,Ud a.length a::G⟩=Xb E K 0 [0,1,5,6] x46_1 k0 ⟨FN b (a.length+1) (a++[r]).length k (i+1),Ud (a.length+1) (a++[r])::c⟩:=by
 obtain⟨hm,hn,hg,x,y,d⟩:=hc;have e:=fun c=>e (Xj (Ud a.length a::c)) rfl
 have ip:=RV A;have iq:=RV B;have l:i<a.length:=(Zf.mp A).1;have o:k<a.length:=(Zf.mp B).1;have u:=hr.len;have z:=UT hg (n:=Tz) rfl;have W:Xe .i64 (.ofNat (i+1))=.ofNat (i+1):=wrap_i64 (by omega);obtain⟨X,-,Y⟩:=II (n:=a.length) (by omega);have tg:(Xw g).take 8=Xw g:=Zd (by rw[Xc];omega);have ht:(pc (Ub a)).take a.length=pc (Ub a):=WV (Ub a) (by rw[Vg];exact Ze _);have hf:=fun h=>Ve 5 h (Ub a)
 have hd:=OU;obtain⟨C,D,F,H,I,J,L,M,rfl⟩:=eight hm;obtain⟨N,O,P,Q,R,S,T,U,rfl⟩:=eight hn;have V:mo [C,D,F,H,I,J,L,M]=[LA C,LA D,LA F,LA H,LA I,LA J,LA L,LA M]:=rfl;have Z:mo [N,O,P,Q,R,S,T,U]=[LA N,LA O,LA P,LA Q,LA R,LA S,LA T,LA U]:=rfl;have z8:Xw Tz=[.p (LA 0),.p (LA 0),.p (LA 0),.p (LA 0),.p (LA 0),.p (LA 0),.p (LA 0),.p (LA 0)]:=rfl;rw[z8]at z;rw[V]at x d;rw[Z]at y d;have v:=decide_eq_false v;rw[jK];apply Exists.intro;rw[Xb];simp(decide:=true)only[Xo,Xr,VR,Vx,kT,reduceIte,Nat.reduceEqDiff,Nat.reduceLeDiff,Nat.reduceAdd,x46_1,t,X4,j,l,o,ip,iq,x,y,d,h4,e,u,f,z,v,W,X,Y,Wj,Rb,Zm,Zq,Ze];rfl
inductive DX (E:Xa)(lo:PL)(k:Nat):N'->Nat->N'->Prop
 |stop {ps:N'}:DX E lo k ps k ps
 |skip {ps ps':N'} {i:Nat} {p q:PL} {m n g:P'} (hi:ps[i]? =some p) (hk:ps[k]? =some q) (hik:i<k) (hl:ps.length<100000) (hc:ID E lo p q m n g) (hz:g=Tz) (h:DX E lo k ps (i+1) ps'):DX E lo k ps i ps'
 |zero {ps ps':N'} {i:Nat} {p q s r:PL} {m n g:P'} (hi:ps[i]? =some p) (hk:ps[k]? =some q) (hik:i<k) (hl:ps.length<100000) (hc:ID E lo p q m n g) (hz:g≠Tz) (h4:E.pure 88 [.agg [p,.Xq],.agg [q,.Xq],.one lo]=some (.agg [s,.Xq])) (h5:∀h,h 0=some (Ud ps.length ps)->WI E h 84 [.agg [.p s,.p .Xq],.one (.own 0 ps.length 0 ps.length),.one (.p lo)]=some ⟨.agg [.p r,.p .Xq],[],[(0,Ud ps.length ps)],[0]⟩) (hr:Sl r []) (h:DX E lo k ps (i+1) ps'):DX E lo k ps i ps'
 |new {ps ps':N'} {i:Nat} {p q s r:PL} {es:I'} {m n g:P'} (hi:ps[i]? =some p) (hk:ps[k]? =some q) (hik:i<k) (hl:ps.length<100000) (hc:ID E lo p q m n g) (hz:g≠Tz) (h4:E.pure 88 [.agg [p,.Xq],.agg [q,.Xq],.one lo]=some (.agg [s,.Xq])) (h5:∀h,h 0=some (Ud ps.length ps)->WI E h 84 [.agg [.p s,.p .Xq],.one (.own 0 ps.length 0 ps.length),.one (.p lo)]=some ⟨.agg [.p r,.p .Xq],[],[(0,Ud ps.length ps)],[0]⟩) (hr:Sl r es) (hes:0<es.length) (h:DX E lo k (ps++[r]) (i+1) ps'):DX E lo k ps i ps'
inductive GG (E:Xa)(lo:PL):Nat->N'->Nat->N'->Prop
 |stop {ps:N'}:GG E lo 0 ps ps.length ps
 |next {N:Nat} {ps ps1 ps2:N'} {k:Nat} (hk:k<ps.length) (hl:ps.length<100000) (h1:DX E lo k ps 0 ps1) (h:GG E lo N ps1 (k+1) ps2):GG E lo (N+1) ps k ps2
theorem JP {E:Xa}{K:Nat}(f:E.mode=md){z:PL}{k:Nat}{a c:N'}{i:Nat}(h:DX E z k a i c):∀(k0:Nat) (G:V'),i<=k->k-i<k0->
  ∃d F,Xb E K 0 [0,1,5,6] x46_1 k0 ⟨FN z a.length a.length k i,Ud a.length a::G⟩=some (.exit 2,⟨d,Ud c.length c::F⟩)/\Xh d 0=some (.one (.own 0 c.length 0 c.length))/\Xh d 1=some (.one (.p z))/\Xh d 5=some (LB k):=by
 induction h with
 |@stop a=>
  intro k0 G _ l;obtain⟨k0,rfl⟩:∃j,k0=j+1:=⟨k0-1,by omega⟩;have :∃d,Xb E K 0 [0,1,5,6] x46_1 (k0+1) ⟨FN z a.length a.length k k,Ud a.length a::G⟩=some (.exit 2,⟨d,Ud a.length a::G⟩)/\Xh d 0=some (.one (.own 0 a.length 0 a.length))/\Xh d 1=some (.one (.p z))/\Xh d 5=some (LB k):=by
   apply VO
   ·rw[Xb];simp only[Xo,Xr,reduceIte,Nat.reduceEqDiff,x46_1,Zv];rfl
   ·simp only[Xo,reduceIte,Nat.reduceEqDiff,and_self]
  obtain⟨d,H,I⟩:=this;exact⟨d,G,H,I⟩
 |skip u l b w t x h y=>
  intro k0 G _ v;obtain⟨k0,rfl⟩:∃j,k0=j+1:=⟨k0-1,by omega⟩;obtain⟨o,e⟩:=FM (K:=K) (k0:=k0) f u l b w t x G;rw[e];exact y k0 o b (by omega)
 |zero u l b w t x A B D h y=>
  intro k0 G _ v;obtain⟨k0,rfl⟩:∃j,k0=j+1:=⟨k0-1,by omega⟩;obtain⟨o,e⟩:=FL (K:=K) (k0:=k0) f u l b w t x A B D G;rw[e];exact y k0 o b (by omega)
 |@new a c i p q s r J m n g u l b w t x A B D C h y=>
  intro k0 G _ v;obtain⟨k0,rfl⟩:∃j,k0=j+1:=⟨k0-1,by omega⟩;obtain⟨o,e⟩:=Ii (K:=K) (k0:=k0) f u l b w t x A B D C G;rw[e];have:=y k0 o b (by omega);rw[show(a++[r]).length=a.length+1 by simp]at this;rw[show(a++[r]).length=a.length+1 by simp];exact this
abbrev KY (lo:PL)(v n k:Nat):List (Nat×DV):=[(0,.one (.own 0 v 0 n)),(1,.one (.p lo)),(5,LB k)]
theorem Ih {E:Xa}{K:Nat}(i:E.mode=md){l:PL}{N:Nat}{a c:N'}{k:Nat}(h:GG E l N a k c):∀(b:Nat) (G:V'),N<b->k+N<K->
  ∃d f,Xb E K 0 [0,1,5] x46_2 b ⟨KY l a.length a.length k,Ud a.length a::G⟩=some (.exit 0,⟨d,Ud c.length c::f⟩)/\Xh d 0=some (.one (.own 0 c.length 0 c.length)):=by
 induction h with
 |@stop a=>
  intro b G m _;obtain⟨b,rfl⟩:∃j,b=j+1:=⟨b-1,by omega⟩;have :∃d,Xb E K 0 [0,1,5] x46_2 (b+1) ⟨KY l a.length a.length a.length,Ud a.length a::G⟩=some (.exit 0,⟨d,Ud a.length a::G⟩)/\Xh d 0=some (.one (.own 0 a.length 0 a.length)):=by
   apply VO
   ·rw[Xb];simp only[Xo,Xr,reduceIte,Nat.reduceEqDiff,x46_2,Zv];rfl
   ·simp only[Xo,reduceIte,Nat.reduceEqDiff]
  obtain⟨d,e,g⟩:=this;exact⟨d,G,e,g⟩
 |@next N a s t k m A q h r=>
  intro b G z y;obtain⟨b,rfl⟩:∃j,b=j+1:=⟨b-1,by omega⟩;obtain⟨x,n,e,u,v,w⟩:=JP (K:=K) i q K G (Zw _) (by omega);obtain⟨d,f,g,p⟩:=r b n (by omega) (by omega);refine⟨d,f,?_,p⟩;have o:Xe .i64 (.ofNat (k+1))=.ofNat (k+1):=wrap_i64 (by omega);rw[<-g,Xb];simp only[FN]at e;simp(decide:=true)only[Xo,Xr,reduceIte,x46_2,m,o,e,u,v,w]
theorem oL {B:Xs}(j:Std B){g:PL}{b a:N'}{N:Nat}{G:V'}(h:XS B fun E _=>GG E g N b 0 a):∃c,Ut B 46 [.one (.own 0 b.length 0 b.length),.one (.p g)] (Ud b.length b::G) (.one (.own 0 a.length 0 a.length)) (Ud a.length a::c):=by
 obtain⟨d,i,m,G,rfl,rfl⟩:=Ut.fE (f:=46) (ad:=[.one (.own 0 b.length 0 b.length),.one (.p g)]) (H:=Ud b.length b::G) (P:=fun d i=>∃c,d=.one (.own 0 a.length 0 a.length)/\i=Ud a.length a::c) (j.Wa _ _ rfl) ((h.and (j.Xk.and (XS.ge (N+1)))).mono fun E K ⟨l,e,q⟩=>by
  obtain⟨o,c,k,n⟩:=Ih (K:=K) e l K G (by omega) (by omega);refine⟨_,_,?_,c,rfl,rfl⟩;simp only[KY]at k;simp(decide:=true)only[Xo,Xr,Vx,reduceIte,Nat.reduceAdd,x46,k,n])
 exact⟨G,m⟩
theorem vm {B:Xs}(A:Std B){i p q x y k l o r u v w z:PL}{m n L s t:P'}(D:m.length=8)(F:n.length=8)(C:L.length=8)(G:s.length=8)(H:t.length=8)
  (a:Xu B 86 [.agg [p,.Xq],.one i] (.agg (mo m))) (b:Xu B 86 [.agg [q,.Xq],.one i] (.agg (mo n)))
  (c:Xu B 108 [.agg (mo m),.agg (mo n)] (.agg (mo L))) (d:Xu B 136 [.agg (mo L),.agg (mo m)] (.X9 [.agg (mo s),.one (.bool true)])) (e:Xu B 136 [.agg (mo L),.agg (mo n)] (.X9 [.agg (mo t),.one (.bool true)]))
  (w1:Xu B 18 [.one (.int .i64 (.negSucc 0))] (.agg [k,l,o,r])) (j:Xu B 18 [.one (LA 1)] (.agg [u,v,w,z]))
  (f:Xu B 134 [.agg [.Xq,.Xn []],.one (.Xn [k::l::o::r::mo s]),.agg [p,.Xq]] (.agg [x,.Xq])) (g:Xu B 134 [.agg [x,.Xq],.one (.Xn [u::v::w::z::mo t]),.agg [q,.Xq]] (.agg [y,.Xq])):
  Xu B 88 [.agg [p,.Xq],.agg [q,.Xq],.one i] (.agg [y,.Xq]):=by
 refine Xu.of (A.Wa _ _ rfl) ((a.Xk.and (b.Xk.and (c.Xk.and (d.Xk.and (e.Xk.and (f.Xk.and (g.Xk.and (w1.Xk.and (j.Xk.and A.Xk))))))))).mono fun E K ⟨a,b,c,d,e,f,g,w1,j,h⟩=> ?_);obtain⟨M,N,O,P,Q,R,S,T,rfl⟩:=eight D;obtain⟨n1,n2,n3,n4,n5,n6,n7,n8,rfl⟩:=eight F;obtain⟨U,V,W,X,Y,Z,l7,l8,rfl⟩:=eight C;obtain⟨s1,s2,s3,s4,s5,s6,s7,s8,rfl⟩:=eight G;obtain⟨t1,t2,t3,t4,t5,t6,t7,t8,rfl⟩:=eight H;simp only[mo,Zt,ZN]at a b c d e f g;cases I:x.scalar<;>cases J:y.scalar<;>simp(decide:=true)only[Xo,Xr,Vx,reduceIte,Nat.reduceAdd,x88,h,X4,a,b,c,d,e,f,g,w1,j,I,J]
inductive QQ (E:Xa):PL->N'->N'->PL->Prop
 |nil {x:PL}:QQ E x [] [] x
 |skip {x q p y:PL} {qs ps:N'} (hq:Sl q []) (h:QQ E x qs ps y):QQ E x (q::qs) (p::ps) y
 |step {x x' q p y:PL} {qs ps:N'} {es:I'} (hq:Sl q es) (he:0<es.length) (hm:E.pure 134 [.agg [x,.Xq],.one q,.agg [p,.Xq]]=some (.agg [x',.Xq])) (h:QQ E x' qs ps y):QQ E x (q::qs) (p::ps) y
theorem QQ.len {E:Xa}{x y:PL}{c b:N'}(h:QQ E x c b y):c.length=b.length:=by
 induction h with
 |nil=>rfl
 |skip _ _ a=>simp[a]
 |step _ _ _ _ a=>simp[a]
abbrev xy (Q R:PL):Xx:=⟨false,0,3,[[.p Q,.p R,.p (LA 0)]],false,153⟩
abbrev xF (x:PL):Xx:=⟨false,0,2,[[.p x,.p .Xq]],false,117⟩
abbrev Hg (n v:Nat)(lo:PL)(i:Nat):List (Nat×DV):=[(1,.one (.own 0 v 0 n)),(2,.one (.p lo)),(6,.one (.ptr 2 0 0 0)),(7,.one (.ptr 3 0 0 0)),(8,.one (.ptr 4 0 0 0)),(9,LB i)]
theorem zJ {E:Xa}{K:Nat}(A:E.mode=md){v:Nat}{lo Q R:PL}{I b:N'}(N:Sl Q (Xf I))(V:b.length<100000)(S:I.length=b.length)(r s:Xx):∀{x y:PL} {o f:N'},QQ E x o f y->∀(i k:Nat) (G:V'),b.drop i=f->I.drop i=o->i+f.length=b.length->f.length<k->
  ∃a j,Xb E K 0 [1,2,6,7,8,9] x84_1 k ⟨Hg b.length v lo i,Ud v b::r::s::xy Q R::xF x::G⟩=some (.exit 0,⟨a,Ud v b::r::s::xy Q R::xF y::j⟩)/\Xh a 2=some (.one (.p lo))/\Xh a 6=some (.one (.ptr 2 0 0 0))/\Xh a 8=some (.one (.ptr 4 0 0 0)):=by
 intro x y o f h;induction h with
 |@nil x=>
  intro i k G _ _ g t;obtain⟨k,rfl⟩:∃n,k=n+1:=⟨k-1,by omega⟩;simp only[Zr,Z0]at g;subst g;have :∃a,Xb E K 0 [1,2,6,7,8,9] x84_1 (k+1) ⟨Hg b.length v lo b.length,Ud v b::r::s::xy Q R::xF x::G⟩=some (.exit 0,⟨a,Ud v b::r::s::xy Q R::xF x::G⟩)/\Xh a 2=some (.one (.p lo))/\Xh a 6=some (.one (.ptr 2 0 0 0))/\Xh a 8=some (.one (.ptr 4 0 0 0)):=by
   apply VO
   ·rw[Xb];simp only[Xo,Xr,reduceIte,Nat.reduceEqDiff,x84_1,Zv];rfl
   ·simp only[Xo,reduceIte,Nat.reduceEqDiff,and_self]
  obtain⟨a,l,m⟩:=this;exact⟨a,G,l,m⟩
 |@skip x q p y o f C h D=>
  intro i k G B d g t;obtain⟨k,rfl⟩:∃n,k=n+1:=⟨k-1,by omega⟩;simp only[Zi]at g t;obtain⟨M,w⟩:=Xi B;obtain⟨L,J⟩:=Xi d;have c:i<b.length:=by omega
  have e:=C.len;have F:=fun(z:HF) (H:IntKind)=>N.idx (h:=z) (k:=H) (sz:=1) (XY L) rfl
  have u:Xe .i64 (.ofNat (i+1))=.ofNat (i+1):=wrap_i64 (by omega);obtain⟨a,j,l,m⟩:=D (i+1) k G w J (by omega) (by omega);refine⟨a,j,?_,m⟩;rw[<-l,Xb];simp(decide:=true)only[Xo,Xr,reduceIte,Nat.reduceAdd,x84_1,c,F,e,u]
 |@step x W q p y o f U C O P h D=>
  intro i k G B d g t;obtain⟨k,rfl⟩:∃n,k=n+1:=⟨k-1,by omega⟩;simp only[Zi]at g t;obtain⟨M,w⟩:=Xi B;obtain⟨L,J⟩:=Xi d;have c:i<b.length:=by omega
  have e:=C.len;have F:=fun(z:HF) (H:IntKind)=>N.idx (h:=z) (k:=H) (sz:=1) (XY L) rfl
  have T:=RV M;have u:Xe .i64 (.ofNat (i+1))=.ofNat (i+1):=wrap_i64 (by omega);obtain⟨a,j,l,m⟩:=D (i+1) k G w J (by omega) (by omega);refine⟨a,j,?_,m⟩;rw[<-l,Xb];simp(decide:=true)only[Xo,Vx,Xr,VR,reduceIte,Nat.reduceEqDiff,Nat.reduceLeDiff,Nat.reduceAdd,x84_1,c,F,T,e,O,P,A,X4,u]
theorem sB {B:Xs}(i:Std B){lo Q R p y r:PL}{m a:N'}(x:Sl Q (Xf m))(l:a.length<100000)
  (o:Xu B 109 [.one p,.one (.Xn (Xf a)),.one lo] (.agg [Q,R,LA 0])) (q:XS B fun E _=>QQ E p m a y) (s:Xu B 89 [.agg [y,.Xq],.one lo] (.agg [r,.Xq])):
  ∃G,Ut B 84 [.agg [.p p,.p .Xq],.one (.own 0 a.length 0 a.length),.one (.p lo)] [Ud a.length a] (.agg [.p r,.p .Xq]) (Ud a.length a::G):=by
 have h0:=oI i (v:=a.length) l;obtain⟨d,k,c,G,rfl,rfl⟩:=Ut.fE (f:=84) (ad:=[.agg [.p p,.p .Xq],.one (.own 0 a.length 0 a.length),.one (.p lo)]) (H:=[Ud a.length a]) (P:=fun d k=>∃G,d=.agg [.p r,.p .Xq]/\k=Ud a.length a::G) (i.Wa _ _ rfl) ((h0.and (o.Xk.and (q.and (s.Xk.and (i.Xk.and (XS.ge (a.length+1))))))).mono fun E K ⟨g,e1,e2,n,b,A⟩=>by
  obtain⟨z,j,c,t,u,w⟩:=zJ (K:=K) b (v:=a.length) (lo:=lo) (R:=R) x l e2.len ⟨false,0,2,[[.p p,.p .Xq]],false,117⟩ ⟨false,0,2,[[.p .Xq,.p .Xq]],false,117⟩ e2 0 K [] rfl rfl (by omega) (by omega);simp only[Hg]at c;have g:=fun j=>g (Xj (Ud a.length a::j)) rfl
  have h:∃G2,VD E K x84 [.agg [.p p,.p .Xq],.one (.own 0 a.length 0 a.length),.one (.p lo)] [Ud a.length a]=some (.agg [.p r,.p .Xq],Ud a.length a::G2):=by
   apply Exists.intro;simp(decide:=true)only[Xo,Xr,Vx,reduceIte,Nat.reduceAdd,x84,b,X4,g,e1,n,c,t,u,w];rfl
  obtain⟨G2,e⟩:=h;exact⟨_,_,e,G2,rfl,rfl⟩)
 exact⟨_,c⟩
theorem sA {B:Xs}(i:Std B){b Q R p y r:PL}{c a:N'}(m:Sl Q (Xf c))(l:a.length<100000)
  (d:Xu B 109 [.one p,.one (.Xn (Xf a)),.one b] (.agg [Q,R,LA 0])) (f:XS B fun E _=>QQ E p c a y) (g:Xu B 89 [.agg [y,.Xq],.one b] (.agg [r,.Xq])):
  XS B fun E _=>∀h,h 0=some (Ud a.length a)->WI E h 84 [.agg [.p p,.p .Xq],.one (.own 0 a.length 0 a.length),.one (.p b)]=some ⟨.agg [.p r,.p .Xq],[],[(0,Ud a.length a)],[0]⟩:=by
 obtain⟨G,k⟩:=sB i m l d f g;exact k.Xk.mono fun E K e h j=>qc (r:=.agg [r,.Xq]) rfl rfl j rfl rfl rfl (Nd a) e rfl rfl
abbrev Hf (L:PL)(lo:PL)(i:Nat):List (Nat×DV):=[(1,.one (.p L)),(2,.one (.p lo)),(6,.one (.ptr 1 0 0 0)),(7,.one (.ptr 2 0 0 0)),(8,.one (.ptr 3 0 0 0)),(9,LB i)]
theorem zI {E:Xa}{K:Nat}(C:E.mode=md){L:PL}{lo Q R:PL}{J c:N'}(z:Sl L (Ub c))(P:Sl Q (Xf J))(X:c.length<100000)(U:J.length=c.length)(u v:Xx):∀{x y:PL} {t g:N'},QQ E x t g y->∀(i k:Nat) (G:V'),c.drop i=g->J.drop i=t->i+g.length=c.length->g.length<k->
  ∃b l,Xb E K 0 [1,2,6,7,8,9] x84_1 k ⟨Hf L lo i,u::v::xy Q R::xF x::G⟩=some (.exit 0,⟨b,u::v::xy Q R::xF y::l⟩)/\Xh b 2=some (.one (.p lo))/\Xh b 6=some (.one (.ptr 1 0 0 0))/\Xh b 8=some (.one (.ptr 3 0 0 0)):=by
 intro x y t g h;induction h with
 |@nil x=>
  intro i k G _ _ j w;obtain⟨k,rfl⟩:∃r,k=r+1:=⟨k-1,by omega⟩;simp only[Zr,Z0]at j;subst j;have a:=z.len;have :∃b,Xb E K 0 [1,2,6,7,8,9] x84_1 (k+1) ⟨Hf L lo c.length,u::v::xy Q R::xF x::G⟩=some (.exit 0,⟨b,u::v::xy Q R::xF x::G⟩)/\Xh b 2=some (.one (.p lo))/\Xh b 6=some (.one (.ptr 1 0 0 0))/\Xh b 8=some (.one (.ptr 3 0 0 0)):=by
   apply VO
   ·rw[Xb];simp only[Xo,Xr,reduceIte,Nat.reduceEqDiff,x84_1,a,Vg,Zv];rfl
   ·simp only[Xo,reduceIte,Nat.reduceEqDiff,and_self]
  obtain⟨b,m,n⟩:=this;exact⟨b,G,m,n⟩
 |@skip x q p y t g F h H=>
  intro i k G D e j w;obtain⟨k,rfl⟩:∃r,k=r+1:=⟨k-1,by omega⟩;simp only[Zi]at j w;obtain⟨O,B⟩:=Xi D;obtain⟨N,M⟩:=Xi e;have d:i<c.length:=by omega
  have a:=z.len;have f:=F.len;have I:=fun(o:HF) (s:IntKind)=>P.idx (h:=o) (k:=s) (sz:=1) (XY N) rfl
  have A:Xe .i64 (.ofNat (i+1))=.ofNat (i+1):=wrap_i64 (by omega);obtain⟨b,l,m,n⟩:=H (i+1) k G B M (by omega) (by omega);refine⟨b,l,?_,n⟩;rw[<-m,Xb];simp(decide:=true)only[Xo,Xr,reduceIte,Nat.reduceAdd,x84_1,a,Vg,d,I,f,A]
 |@step x Y q p y t g W F S T h H=>
  intro i k G D e j w;obtain⟨k,rfl⟩:∃r,k=r+1:=⟨k-1,by omega⟩;simp only[Zi]at j w;obtain⟨O,B⟩:=Xi D;obtain⟨N,M⟩:=Xi e;have d:i<c.length:=by omega
  have a:=z.len;have f:=F.len;have I:=fun(o:HF) (s:IntKind)=>P.idx (h:=o) (k:=s) (sz:=1) (XY N) rfl
  have V:=fun(o:HF) (s:IntKind)=>z.idx (h:=o) (k:=s) (sz:=2) (NL O) rfl
  have A:Xe .i64 (.ofNat (i+1))=.ofNat (i+1):=wrap_i64 (by omega);obtain⟨b,l,m,n⟩:=H (i+1) k G B M (by omega) (by omega);refine⟨b,l,?_,n⟩;rw[<-m,Xb];simp(decide:=true)only[Xo,Vx,Xr,VR,reduceIte,Nat.reduceEqDiff,Nat.reduceLeDiff,Nat.reduceAdd,x84_1,a,Vg,d,I,V,f,S,T,C,X4,A]
theorem sy {B:Xs}(h:Std B){L lo Q R p y r:PL}{k b:N'}(l:Sl L (Ub b))(w:Sl Q (Xf k))(j:b.length<100000)
  (o:Xu B 109 [.one p,.one (.Xn (Xf b)),.one lo] (.agg [Q,R,LA 0])) (q:XS B fun E _=>QQ E p k b y) (s:Xu B 89 [.agg [y,.Xq],.one lo] (.agg [r,.Xq])):
  ∃G,Ut B 84 [.agg [.p p,.p .Xq],.one (.p L),.one (.p lo)] [] (.agg [.p r,.p .Xq]) (G):=by
 have h0:=sC h l j;obtain⟨d,i,c,G,rfl,rfl⟩:=Ut.fE (f:=84) (ad:=[.agg [.p p,.p .Xq],.one (.p L),.one (.p lo)]) (H:=[]) (P:=fun d i=>∃G,d=.agg [.p r,.p .Xq]/\i=G) (h.Wa _ _ rfl) ((h0.and (o.Xk.and (q.and (s.Xk.and (h.Xk.and (XS.ge (b.length+1))))))).mono fun E K ⟨m,e1,e2,n,a,A⟩=>by
  obtain⟨z,x,c,t,u,v⟩:=zI (K:=K) a (lo:=lo) (R:=R) l w j e2.len ⟨false,0,2,[[.p p,.p .Xq]],false,117⟩ ⟨false,0,2,[[.p .Xq,.p .Xq]],false,117⟩ e2 0 K [] rfl rfl (by omega) (by omega);simp only[Hf]at c;have g:∃G2,VD E K x84 [.agg [.p p,.p .Xq],.one (.p L),.one (.p lo)] []=some (.agg [.p r,.p .Xq],G2):=by
   apply Exists.intro;simp(decide:=true)only[Xo,Xr,Vx,reduceIte,Nat.reduceAdd,x84,a,X4,m,e1,n,c,t,u,v];rfl
  obtain⟨G2,e⟩:=g;exact⟨_,_,e,G2,rfl,rfl⟩)
 exact⟨_,c⟩
theorem sw {B:Xs}(i:Std B){L b Q R p y r:PL}{c a:N'}(l:Sl L (Ub a))(m:Sl Q (Xf c))(j:a.length<100000)
  (d:Xu B 109 [.one p,.one (.Xn (Xf a)),.one b] (.agg [Q,R,LA 0])) (f:XS B fun E _=>QQ E p c a y) (g:Xu B 89 [.agg [y,.Xq],.one b] (.agg [r,.Xq])):
  XS B fun E _=>∀h,WI E h 84 [.agg [.p p,.p .Xq],.one (.p L),.one (.p b)]=some ⟨.agg [.p r,.p .Xq],[],[],[]⟩:=by
 obtain⟨G,k⟩:=sy i l m j d f g;exact k.Xk.mono fun E K e h=>kZ (r:=.agg [r,.Xq]) rfl rfl e rfl
theorem KR {a b:Type}{f:a->b->Prop}{x:a}{y:b}(h:f x y):∃x y,f x y:=⟨x,y,h⟩
def Rp:J'->Nat->Nat->P'->Bool
 |[],_,_,_=>false
 |m::ms,i,a,n=>if i≠a/\Wn m n=true then true else Rp ms (i+1) a n
abbrev DJ (E:Xa)(lo:PL)(ps:N')(ms:J'):Prop:=XB (fun p m=>m.length=8/\E.pure 86 [.agg [p,.Xq],.one lo]=some (.agg (mo m))) ps ms
abbrev Gi (L lo:PL)(a i:Nat):List (Nat×DV):=[(0,.one (.p L)),(1,LB a),(2,.one (.p lo)),(7,LB i)]
theorem CA {E:Xa}{K:Nat}(w:E.mode=md){L o:PL}{c:N'}(U:Sl L (Ub c))(hl:c.length<100000){a:Nat}{pa:PL}{n:P'}(Y:c[a]? =some pa)(hn:n.length=8)(u:E.pure 86 [.agg [pa,.Xq],.one o]=some (.agg (mo n)))
  :∀{rest:N'} {g:J'},DJ E o rest g->(∀m∈g,E.pure 133 [.agg (mo m),.agg (mo n)]=some (.one (.bool (Wn m n))))->∀(i k:Nat) (G:V'),c.drop i=rest->i+rest.length=c.length->rest.length<k->
  ∃V d j,Xb E K 0 [0,1,2,7] x82_1 k ⟨Gi L o a i,G⟩=some (V,⟨d,j⟩)/\((Rp g i a n=false/\V=.exit 0)\/(Rp g i a n=true/\V=.ret/\Xh d 6=some (.one (.p (.bool true))))):=by
 intro rest g h;induction h with
 |nil=>
  intro _ i k G _ J hk;obtain⟨k,rfl⟩:∃Z,k=Z+1:=⟨k-1,by omega⟩;simp only[Zr,Z0]at J;subst J;have b:=U.len;have :∃d j,Xb E K 0 [0,1,2,7] x82_1 (k+1) ⟨Gi L o a c.length,G⟩=some (.exit 0,⟨d,j⟩):=by
   apply KR;rw[Xb];simp only[Xo,Xr,reduceIte,Nat.reduceEqDiff,x82_1,b,Vg,Zv];rfl
  obtain⟨d,j,W⟩:=this;exact⟨.exit 0,d,j,W,.inl ⟨rfl,rfl⟩⟩
 |@cons p m rest g hp h ih=>
  intro s i k G hd J hk;obtain⟨k,rfl⟩:∃Z,k=Z+1:=⟨k-1,by omega⟩;simp only[Zi]at J hk;obtain⟨gi,gd⟩:=Xi hd;obtain⟨H,v⟩:=hp;have f:=s m (Zc ..);have t:i<c.length:=by omega
  have b:=U.len;have ip:=fun(X:HF) (kd:IntKind)=>U.idx (h:=X) (k:=kd) (sz:=2) (NL gi) rfl
  have ia:=fun(X:HF) (kd:IntKind)=>U.idx (h:=X) (k:=kd) (sz:=2) (NL Y) rfl
  have f1:Xe .i64 (.ofNat (i+1))=.ofNat (i+1):=wrap_i64 (by omega);obtain⟨M,N,O,P,Q,R,S,T,rfl⟩:=eight H;obtain⟨x,y,z,A,B,C,D,F,rfl⟩:=eight hn;by_cases l:i=a
  ·have e1:Rp ([M,N,O,P,Q,R,S,T]::g) i a [x,y,z,A,B,C,D,F]=Rp g (i+1) a [x,y,z,A,B,C,D,F]:=by
    conv=>lhs;unfold Rp
    rw[if_neg (fun h=>h.1 l)]
   subst l;have this:∃r,Xb E K 0 [0,1,2,7] x82_1 (k+1) ⟨Gi L o i i,G⟩=Xb E K 0 [0,1,2,7] x82_1 k ⟨Gi L o i (i+1),r⟩:=by
    apply Exists.intro;rw[Xb];simp(decide:=true)only[Xo,Xr,VR,reduceIte,Nat.reduceEqDiff,Nat.reduceAdd,x82_1,b,Vg,t,w,X4,f1];rfl
   obtain⟨r,e⟩:=this;rw[e1,e];exact ih (fun m H=>s m (Zb _ H)) (i+1) k r gd (by omega) (by omega)
  ·have q:¬i=a:=l;simp only[mo,Zt,ZN]at v u f;cases I:Wn [M,N,O,P,Q,R,S,T] [x,y,z,A,B,C,D,F]with
   |false=>
    rw[I]at f;have e1:Rp ([M,N,O,P,Q,R,S,T]::g) i a [x,y,z,A,B,C,D,F]=Rp g (i+1) a [x,y,z,A,B,C,D,F]:=by
     conv=>lhs;unfold Rp
     rw[if_neg (fun h=>by rw[I]at h;cases h.2)]
    have this:∃r,Xb E K 0 [0,1,2,7] x82_1 (k+1) ⟨Gi L o a i,G⟩=Xb E K 0 [0,1,2,7] x82_1 k ⟨Gi L o a (i+1),r⟩:=by
     apply Exists.intro;rw[Xb];simp(decide:=true)only[Xo,Vx,Xr,VR,reduceIte,Nat.reduceEqDiff,Nat.reduceAdd,x82_1,b,Vg,t,q,ip,ia,v,u,f,w,X4,f1];rfl
    obtain⟨r,e⟩:=this;rw[e1,e];exact ih (fun m H=>s m (Zb _ H)) (i+1) k r gd (by omega) (by omega)
   |true=>
    rw[I]at f;have e1:Rp ([M,N,O,P,Q,R,S,T]::g) i a [x,y,z,A,B,C,D,F]=true:=by
     unfold Rp;rw[if_pos ⟨l,I⟩]
    have this:∃d j,Xb E K 0 [0,1,2,7] x82_1 (k+1) ⟨Gi L o a i,G⟩=some (.ret,⟨d,j⟩)/\Xh d 6=some (.one (.p (.bool true))):=by
     apply DU
     ·rw[Xb];simp(decide:=true)only[Xo,Vx,Xr,VR,reduceIte,Nat.reduceEqDiff,Nat.reduceAdd,x82_1,b,Vg,t,q,ip,ia,v,u,f,w,X4];rfl
     ·simp only[Xo,reduceIte,Nat.reduceEqDiff]
    obtain⟨d,j,W,g2⟩:=this;rw[e1];exact⟨.ret,d,j,W,.inr ⟨rfl,rfl,g2⟩⟩
theorem zO {B:Xs}(j:Std B){L o:PL}{f:N'}{c:J'}(x:Sl L (Ub f))(t:f.length<100000)(h:XS B fun E _=>DJ E o f c)(b:∀m∈c,XD m){a:Nat}{n:P'}(q:c[a]? =some n):
  Xu B 82 [.one L,.one (LA a),.one o] (.one (.bool (Rp c 0 a n))):=by
 have r:=b n (Zk q);have s:XS B fun E _=>∀m∈c,E.pure 133 [.agg (mo m),.agg (mo n)]=some (.one (.bool (Wn m n))):=Ux fun m u=>(PM j (b m u).1 r.1).Xk
 refine Xu.of (j.Wa _ _ rfl) ((h.and (s.and (j.Xk.and (XS.ge (f.length+1))))).mono fun E K ⟨p,e1,k,D⟩=> ?_);have v:∃d,f[a]? =some d/\E.pure 86 [.agg [d,.Xq],.one o]=some (.agg (mo n)):=by
  obtain⟨d,g,-,i⟩:=p.get a n q;exact⟨d,g,i⟩
 obtain⟨d,g,i⟩:=v;obtain⟨C,A,z,l,w⟩:=CA (K:=K) k x t g r.1 i p e1 0 K [] rfl (by omega) (by omega);simp only[Gi]at l;rcases w with⟨e,rfl⟩|⟨e,rfl,y⟩
 ·rw[e];simp(decide:=true)only[Xo,Xr,reduceIte,Nat.reduceAdd,x82,l]
 ·rw[e];simp(decide:=true)only[Xo,Xr,reduceIte,Nat.reduceAdd,x82,l,y]
inductive pH (E:Xa)(lo:PL):Nat->N'->Nat->N'->Prop
 |stop {ps:N'}:pH E lo 0 ps ps.length ps
 |drop {N a:Nat} {ps ps':N'} (ha:a<ps.length) (h1:E.pure 82 [.one (.Xn (Ub ps)),.one (LA a),.one lo]=some (.one (.bool true))) (h2:E.pure 83 [.one (.Xn (Ub ps)),.one (LA a)]=some (.one (.Xn (Ub (Uh ps 0 a))))) (h:pH E lo N (Uh ps 0 a) a ps'):pH E lo (N+1) ps a ps'
 |VM {N a:Nat} {ps ps':N'} (ha:a<ps.length) (hl:ps.length<100000) (h1:E.pure 82 [.one (.Xn (Ub ps)),.one (LA a),.one lo]=some (.one (.bool false))) (h:pH E lo N ps (a+1) ps'):pH E lo (N+1) ps a ps'
theorem Fy {E:Xa}{K:Nat}(d:E.mode=md){n:PL}{N a:Nat}{f b:N'}(h:pH E n N f a b):∀(k:Nat) (G:V'),N<k->
  ∃c,Xb E K 0 [0,1,5] x45_1 k ⟨[(0,.one (.p (.Xn (Ub f)))),(1,.one (.p n)),(5,LB a)],G⟩=some (.exit 0,⟨c,G⟩)/\Xh c 0=some (.one (.p (.Xn (Ub b))))/\Xh c 1=some (.one (.p n)):=by
 induction h with
 |@stop f=>
  intro k G o;obtain⟨k,rfl⟩:∃e,k=e+1:=⟨k-1,by omega⟩;apply VO
  ·rw[Xb];simp only[Xo,Xr,reduceIte,Nat.reduceEqDiff,x45_1,Vg,Zv];rfl
  ·simp only[Xo,reduceIte,Nat.reduceEqDiff,and_self]
 |@drop N a f b l j r h m=>
  intro k G o;obtain⟨k,rfl⟩:∃e,k=e+1:=⟨k-1,by omega⟩;obtain⟨c,g,i⟩:=m k G (by omega);refine⟨c,?_,i⟩;rw[<-g,Xb];simp(decide:=true)only[Xo,Vx,Xr,reduceIte,x45_1,Vg,l,j,r,d,X4]
 |@VM N a f b l s j h m=>
  intro k G o;obtain⟨k,rfl⟩:∃e,k=e+1:=⟨k-1,by omega⟩;obtain⟨c,g,i⟩:=m k G (by omega);have q:Xe .i64 (.ofNat (a+1))=.ofNat (a+1):=wrap_i64 (by omega);refine⟨c,?_,i⟩;rw[<-g,Xb];simp(decide:=true)only[Xo,Vx,Xr,reduceIte,x45_1,Vg,l,j,q,d,X4]
inductive pD (E:Xa)(lo:PL)(os:N')(r:PL):Nat->Nat->Prop
 |zero:pD E lo os r 0 0
 |stop {k:Nat} {p:PL} {m n:P'} {c:Int} (hp:os[k]? =some p) (m8:m.length=8) (n8:n.length=8) (h1:E.pure 86 [.agg [p,.Xq],.one lo]=some (.agg (mo m))) (h2:E.pure 86 [.agg [r,.Xq],.one lo]=some (.agg (mo n))) (h3:E.pure 85 [.one lo,.agg (mo m),.agg (mo n)]=some (.one (.int .i64 c))) (hc:SR (.ofNat 0) c=false):pD E lo os r (k+1) (k+1)
 |step {k k':Nat} {p:PL} {m n:P'} {c:Int} (hp:os[k]? =some p) (m8:m.length=8) (n8:n.length=8) (h1:E.pure 86 [.agg [p,.Xq],.one lo]=some (.agg (mo m))) (h2:E.pure 86 [.agg [r,.Xq],.one lo]=some (.agg (mo n))) (h3:E.pure 85 [.one lo,.agg (mo m),.agg (mo n)]=some (.one (.int .i64 c))) (hc:SR (.ofNat 0) c=true) (h:pD E lo os r k k'):pD E lo os r (k+1) k'
theorem pD.le {E:Xa}{b r:PL}{c:N'}{k a:Nat}(h:pD E b c r k a):a<=k:=by
 induction h with
 |zero=>exact Ze _
 |stop=>exact Ze _
 |step _ _ _ _ _ _ _ _ d=>omega
theorem B4 (a:N')(k:Nat):(pc (Ub a)).take k=pc (Ub (a.take k)):=by simp[pc,Ub,List.map_take]
theorem B5 (a:N')(k:Nat):(pc (Ub a)).drop k=pc (Ub (a.drop k)):=by simp[pc,Ub,List.map_drop]
theorem wK:∀(a:N'),((pc (Ub a)).all fun c=>decide (c.length=2))=true
 |[]=>rfl
 |p::a=>by
  have:=wK a;simp only[pc,Ub,Zt,List.all_cons,List.map_map]at this⊢;rw[this];rfl
theorem Je (d:Nat)(h:HF)(id XM a c l u:Nat):WA d h (.own id XM a c) l (some u)=match h id with
  |some b=>bif Nat.ble l u&&(Nat.ble u c||(Nat.beq b.XM XM&& !b.mp&&Nat.beq a 0&&Nat.blt 0 d&&Nat.ble u b.ch.length))&&Nat.beq b.sz d then some (.own id XM (a+l) (u-l),[id])else none
  |none=>none:=rfl
theorem Jd (d:Nat)(h:HF)(id XM c a l:Nat):WA d h (.own id XM c a) l none=match h id with
  |some b=>bif Nat.ble l a&&(Nat.ble a a||(Nat.beq b.XM XM&& !b.mp&&Nat.beq c 0&&Nat.blt 0 d&&Nat.ble a b.ch.length))&&Nat.beq b.sz d then some (.own id XM (c+l) (a-l),[id])else none
  |none=>none:=rfl
abbrev Lc (ps:N')(lo:PL)(id v n i rid k:Nat):List (Nat×DV):=[(0,.one (.p (.Xn (Ub ps)))),(1,.one (.p lo)),(6,.one (.own id v 0 n)),(7,LB i),(8,.one (.ptr rid 0 0 0)),(9,LB k)]
theorem Fv {E:Xa}{K:Nat}(g:E.mode=md){y r:PL}{ps f:N'}{id v i j:Nat}{H:V'}(D:H[id]? =some (Ud v f))(F:H[j]? =some (xF r))(L:f.length<100000){k e:Nat}(h:pD E y f r k e):∀(a:Nat),k<=f.length->k<a->
  ∃d,Xb E K 0 [0,1,6,7,8,9] x45_2 a ⟨Lc ps y id v f.length i j k,H⟩=some (.exit 4,⟨d,H⟩)/\Xh d 0=some (.one (.p (.Xn (Ub ps))))/\Xh d 1=some (.one (.p y))/\Xh d 6=some (.one (.own id v 0 f.length))/\Xh d 7=some (LB i)/\Xh d 8=some (.one (.ptr j 0 0 0))/\Xh d 9=some (LB e):=by
 induction h with
 |zero=>
  intro a _ G;obtain⟨a,rfl⟩:∃e,a=e+1:=⟨a-1,by omega⟩;apply VO
  ·rw[Xb];simp(decide:=true)only[Xo,Xr,VR,reduceIte,Nat.reduceEqDiff,Nat.reduceAdd,x45_2,g,X4];rfl
  ·simp only[Xo,reduceIte,Nat.reduceEqDiff,and_self]
 |@stop k p m n c w z A l o q t=>
  intro a u G;obtain⟨a,rfl⟩:∃e,a=e+1:=⟨a-1,by omega⟩;have x:=RV w;have s:Xe .i64 (.ofNat (k+1)-.ofNat 1)=.ofNat k:=by rw[Wi (by omega) (by omega),Yj]
  have b:k<f.length:=by omega
  have C:0<k+1:=by omega
  obtain⟨N,O,P,Q,R,S,T,U,rfl⟩:=eight z;obtain⟨V,W,X,Y,Z,n6,n7,B,rfl⟩:=eight A;simp only[mo,Zt,ZN]at l o q;apply VO
  ·rw[Xb];simp(decide:=true)only[Xo,Xr,VR,Vx,reduceIte,Nat.reduceEqDiff,Nat.reduceAdd,x45_2,g,X4,C,D,F,b,x,l,o,q,t,s];rfl
  ·simp only[Xo,reduceIte,Nat.reduceEqDiff,and_self]
 |@step k e p m n c w z A l o q t h M=>
  intro a u G;obtain⟨a,rfl⟩:∃e,a=e+1:=⟨a-1,by omega⟩;have x:=RV w;have s:Xe .i64 (.ofNat (k+1)-.ofNat 1)=.ofNat k:=by rw[Wi (by omega) (by omega),Yj]
  have b:k<f.length:=by omega
  have C:0<k+1:=by omega
  obtain⟨N,O,P,Q,R,S,T,U,rfl⟩:=eight z;obtain⟨V,W,X,Y,Z,n6,n7,B,rfl⟩:=eight A;simp only[mo,Zt,ZN]at l o q;obtain⟨d,I,J⟩:=M a (by omega) (by omega);refine⟨d,?_,J⟩;rw[<-I,Xb];simp(decide:=true)only[Xo,Xr,VR,Vx,reduceIte,Nat.reduceEqDiff,Nat.reduceAdd,x45_2,g,X4,C,D,F,b,x,l,o,q,t,s]
inductive vR (E:Xa)(lo:PL)(ps:N'):N'->Nat->N'->Prop
 |stop {os:N'}:vR E lo ps os ps.length os
 |next {i k:Nat} {os os':N'} {p r:PL} (hp:ps[i]? =some p) (h1:E.pure 83 [.one (.Xn (Ub ps)),.one (LA i)]=some (.one (.Xn (Ub (Uh ps 0 i))))) (h2:∀h,WI E h 84 [.agg [.p p,.p .Xq],.one (.p (.Xn (Ub (Uh ps 0 i)))),.one (.p lo)]=some ⟨.agg [.p r,.p .Xq],[],[],[]⟩) (h3:pD E lo os r os.length k) (h:vR E lo ps (os.take k++[r]++os.drop k) (i+1) os'):vR E lo ps os i os'
theorem Fx {E:Xa}{K:Nat}(l:E.mode=md){D:PL}{ps:N'}(hl:ps.length<50000)(hK:ps.length<K){a e:N'}{i:Nat}(h:vR E D ps a i e):∀(b id v:Nat) (H:V'),ps.length<b+i->a.length<=i->H[id]? =some (Ud v a)->
  ∃c m d s,Xb E K 0 [0,1,6,7] x45_3 b ⟨[(0,.one (.p (.Xn (Ub ps)))),(1,.one (.p D)),(6,.one (.own id v 0 a.length)),(7,LB i)],H⟩=some (.exit 2,⟨c,m⟩)/\Xh c 6=some (.one (.own d s 0 e.length))/\m[d]? =some (Ud s e):=by
 induction h with
 |@stop a=>
  intro b id v H Z _ q;obtain⟨b,rfl⟩:∃C,b=C+1:=⟨b-1,by omega⟩;have :∃c,Xb E K 0 [0,1,6,7] x45_3 (b+1) ⟨[(0,.one (.p (.Xn (Ub ps)))),(1,.one (.p D)),(6,.one (.own id v 0 a.length)),(7,LB ps.length)],H⟩=some (.exit 2,⟨c,H⟩)/\Xh c 6=some (.one (.own id v 0 a.length)):=by
   apply VO
   ·rw[Xb];simp only[Xo,Xr,reduceIte,Nat.reduceEqDiff,x45_3,Vg,Zv];rfl
   ·simp only[Xo,reduceIte,Nat.reduceEqDiff]
  obtain⟨c,g,x⟩:=this;exact⟨c,H,id,v,g,x,q⟩
 |@next i k a e p r G W X F h ih=>
  intro b id v H Z ho q;have z:i<ps.length:=(Zf.1 G).1;obtain⟨b,rfl⟩:∃C,b=C+1:=⟨b-1,by omega⟩;have A:=F.le;have j:(a.take k++[r]++a.drop k).length=a.length+1:=by simp;omega
  have y:id<H.length:=(Zf.1 q).1;have f:∀L:V',(H++L)[id]? =some (Ud v a):=fun L=>by rw[ZA y];exact q
  obtain⟨c,m,d,s,g,x,V⟩:=ih b (H.length+1) 3 (H++[xF r,Ud 3 (a.take k++[r]++a.drop k),xF r]) (by omega) (by omega) (by rw[ZJ (by omega)];simp);refine⟨c,m,d,s,?_,x,V⟩;have Q:Xe .i64 (.ofNat (i+1))=.ofNat (i+1):=wrap_i64 (by omega);have ip:=fun(Y:HF) (kd:IntKind)=>Sl.Xn.idx (h:=Y) (k:=kd) (sz:=2) (NL G) rfl
  have B:(H++[xF r])[H.length]? =some (xF r):=by rw[ZJ (Ze _)];simp
  obtain⟨T1,J,t0,t1,t6,t7,t8,t9⟩:=Fv (K:=K) l (ps:=ps) (i:=i) (f [xF r]) B (by omega) F K (Ze _) (by omega);have l1:(a.take k).length=k:=by simp;omega
  have I:(a.drop k).length=a.length-k:=by simp
  obtain⟨o,-,f3⟩:=II (n:=a.length) (by omega);have R:k*48<=lim:=Zx (by omega) o;have S:k<=9223372036854775807:=by omega
  have T:(k+1)*48<=lim:=Zx (by omega) o;have U:k+1<=9223372036854775807:=by omega
  have f8:(k+1+(a.length-k))*48<=lim:=Zx (by omega) o;have f9:k+1+(a.length-k)<=9223372036854775807:=by omega
  have u:k+(a.length-k)<=a.length:=by omega
  have w:a.length<=9223372036854775806:=by omega
  have M:=wK;rw[j]at g;have O:Ud 3 (a.take k++[r]++a.drop k)=⟨false,3,2,pc (Ub (a.take k))++[[.p r,.p .Xq]]++pc (Ub (a.drop k)),false,117⟩:=by simp[Ud,Ub,pc]
  rw[O]at g;have P:k+1+(a.length-k)=a.length+1:=by omega
  have N:((pc (Ub a)).drop k).take (a.length-k)=pc (Ub (a.drop k)):=by rw[B5];exact Zd (by rw[Rb,I];exact Ze _)
  have t:(pc (Ub a)).take k=pc (Ub (a.take k)):=B4 a k;have lt:(pc (Ub (a.take k))).length=k:=by rw[Rb,l1]
  have ld:(pc (Ub (a.drop k))).length=a.length-k:=by rw[Rb,I]
  simp only[Lc]at J;rw[<-g,Xb];simp(decide:=true)only[Xo,Xr,VR,Vx,kT,reduceIte,Nat.reduceEqDiff,Nat.reduceLeDiff,Nat.reduceAdd,x45_3,l,X4,Vg,z,ip,W,X,J,t0,t1,t6,t7,t8,t9,f,Q,Je,Jd,A,R,S,T,U,o,u,w,M,N,t,lt,ld,P,Rb,YW,Ze,Zw,Zm,Zq]
theorem CF {B:Xs}(g:Std B){e:PL}{N:Nat}{i c a:N'}(o:c.length<50000)(l:XS B fun E _=>pH E e N i 0 c)(m:XS B fun E _=>vR E e c [] 0 a):Xu B 45 [.one (.Xn (Ub i)),.one e] (.one (.Xn (Ub a))):=by
 refine Xu.of (g.Wa _ _ rfl) ((l.and (m.and (g.Xk.and (XS.ge (N+c.length+1))))).mono fun E K ⟨e1,e2,b,x⟩=> ?_);obtain⟨v,j,r,s⟩:=Fy (K:=K) b e1 K [] (by omega);obtain⟨w,u,q,y,f,t,k⟩:=Fx (K:=K) b o (by omega) e2 K 0 0 [Ud 0 []] (by omega) (Ze _) rfl;have d:pc (Ub [])=[]:=rfl;have p:(pc (Ub a)).take a.length=pc (Ub a):=WV (Ub a) (by rw[Vg];exact Ze _);have n:=fun h=>Ve 5 h (Ub a)
 simp only[Ud,d,Zr]at f;simp(decide:=true)only[Xo,Xr,reduceIte,Nat.reduceAdd,x45,j,r,s,f,t,k,p,n,Rb,Ze]
abbrev KQ (cs:N'):Xx:=⟨true,cs.length,2,pc (Ub cs),false,117⟩
theorem zN {B:Xs}(g:Std B){L c:PL}{m q b n a:N'}{N M:Nat}(R:Sl L (Xf m))(S:m.length<50000)(C:n.length<50000)(T:a.length<50000)(t:XS B fun E _=>QZ E c m q)(u:XS B fun E _=>GG E c N q 0 b)(v:XS B fun E _=>pH E c M b 0 n)(w:XS B fun E _=>vR E c n [] 0 a):
  XS B fun E _=>∀H,TX E 16 [.one (.p L),.one (.p c)] H=some (.one (.own H.length a.length 0 a.length),H++[Oh a.length a]):=by
 obtain⟨G,F⟩:=sD g R (by omega) t;obtain⟨j,I⟩:=oL g (G:=G) u;have J:=CF g C v w;have O:=oH g (L:=.Xn (Ub a)) .Xn (by omega);obtain⟨d,o,Q,i,z,rfl⟩:=Ut.fE (f:=16) (ad:=[.one (.p L),.one (.p c)]) (H:=[]) (P:=fun d o=>∃i,o[i]? =some (Oh a.length a)/\d=.one (.own i a.length 0 a.length)) (g.Wa _ _ rfl) ((F.Xk.and (I.Xk.and (J.Xk.and (O.and g.Xk)))).mono fun E K ⟨e1,e2,r,s,l⟩=>by
  have D:(pc (Ub b)).take b.length=pc (Ub b):=WV (Ub b) (by rw[Vg];exact Ze _);have y:=fun h=>Ve 5 h (Ub b)
  have x:=OU;have k:VD E K x16 [.one (.p L),.one (.p c)] []=some (.one (.own (KQ b::j).length a.length 0 a.length),(KQ b::j)++[Oh a.length a]):=by
   simp(decide:=true)only[Xo,Xr,VR,Vx,reduceIte,Nat.reduceAdd,x16,l,X4,e1,e2,r,s,D,y,x,Rb,Ze];all_goals rfl
  exact⟨_,_,k,(KQ b::j).length,by rw[ZJ (Ze _),YH];rfl,rfl⟩)
 exact Q.Xk.mono fun E K e H=>by
  unfold TX;have A:=Nc a;simp only[TV,List.all_cons,List.all_nil,SP,Bool.and_true,cond_true,e,z,A,Bool.not_false]
end Go.Proofs.YtidginchkjhobaaGreat
