/- Package integer: words. -/
import Derived.Test.YtidginchkjhobaaGreatStd
namespace Go.Proofs.YtidginchkjhobaaGreat
open Go.Ev Go.Num
theorem cU {E:Xa}{K:Nat}{l:PL}{a:P'}(s:Us l a)(g:a.length<9223372036854775808):∀(n k:Nat) (H:V'),n<k->n<=a.length->
  ∃b,Xb E K 0 [0,3] x175_1 k ⟨[(0,.one (.p l)),(3,LB n)],H⟩=some (.exit 0,⟨b,H⟩)/\Xh b 0=some (.one (.p l))/\Xh b 3=some (LB (Vu (a.take n)).length)
 |_,0,_,h,_=>by omega
 |0,k+1,H,_,_=>by
  apply VO
  ·rw[Xb];simp only[Xo,Xr,reduceIte,Nat.reduceEqDiff,x175_1,Zv];rfl
  ·simp only[Xo,reduceIte,Nat.reduceEqDiff,Vu,and_self]
 |n+1,k+1,H,hk,hn=>by
  obtain⟨w,c⟩:∃w,a[n]? =some w:=⟨_,Zg (by omega)⟩;have d:Xe .i64 (Int.ofNat (n+1)-Int.ofNat 1)=Int.ofNat n:=Wi (by omega) (by omega);rw[ly c,cS];by_cases h0:w=0
  ·subst h0;obtain⟨b,e,f⟩:=cU s g n k H (by omega) (by omega);refine⟨b,?_,f⟩;rw[Xb];simp only[Xo,Xr,reduceIte,Nat.reduceEqDiff,x175_1,YD,d,s.idx c];exact e
  ·apply VO
   ·rw[Xb];simp only[Xo,Xr,reduceIte,Nat.reduceEqDiff,x175_1,YD,d,s.idx c,h0];rfl
   ·simp only[Xo,reduceIte,Nat.reduceEqDiff,h0,Zm,ZX,Yy (show n<=a.length by omega),and_self]
theorem Rl {B:Xs}(g:Std B){ws:P'}(i:ws.length<9223372036854775808):Xu B 175 [.one (.Xn (Uy ws))] (.one (.Xn (Uy (Vu ws)))):=by
 have s:Us (.Xn (Uy ws)) ws:=.Xn;refine Xu.of (g.Wa _ _ rfl) ((XS.ge (ws.length+1)).mono fun E K k=> ?_);obtain⟨j,d,e,b⟩:=cU (E:=E) (K:=K) s i ws.length K [] (by omega) (Ze _);rw[Yp]at b;have a:∀h,WA 1 h (.p (.Xn (Uy ws))) 0 (some (Vu ws).length)=some (.p (.Xn (Uy (Vu ws))),[]):=by
  intro h;obtain⟨r,a,c⟩:=s.upto (n:=(Vu ws).length) (aU ws);have:=a h;rw[<-fO]at c;rcases c with rfl|⟨-,rfl⟩
  ·exact this
  ·simp only[WA]at this;obtain⟨-,f⟩:=XX this;simp at f
 simp only[Xo,Xr,reduceIte,Nat.reduceEqDiff,Nat.reduceLeDiff,x175,s.len,d,e,b,a]
theorem qn {B:Xs}(g:Std B){l:PL}{a:P'}(s:Us l a)(h:a.length<9223372036854775808):∃r,Xu B 175 [.one l] (.one r)/\Us r (Vu a):=by
 obtain⟨r,f,c⟩:=s.upto (n:=(Vu a).length) (aU a);rw[<-fO]at c;refine⟨r,Xu.of (g.Wa _ _ rfl) ((XS.ge (a.length+1)).mono fun E K j=> ?_),c⟩;obtain⟨i,d,e,b⟩:=cU (E:=E) (K:=K) s h a.length K [] (by omega) (Ze _);rw[Yp]at b;simp only[Xo,Xr,reduceIte,Nat.reduceEqDiff,Nat.reduceLeDiff,x175,s.len,d,e,b,f]
theorem gF {E:Xa}{K:Nat}{z I:PL}{a b:P'}(C:Us z a)(A:Us I b)(D:WG a)(F:WG b)(l:b.length<=a.length)(O:a.length<10000000000000)(t:Nat):
  ∀(d i k:Nat) (r:P') (c:Nat),i+d=a.length->d<k->r.length=a.length+1->WG r->c<2->(∀j,i<=j->j<=a.length->r[j]? =some 0)->val r+c*4294967296^i=val (a.take i)+val (b.take i)->
  ∃e g f,Xb E K 0 [0,1,5,6,21,22] x179_1 k ⟨[(0,.one (.p z)),(1,.one (.p I)),(5,.one (.own 0 0 0 (a.length+1))),(6,LD c),(21,LB a.length),(22,LB i)],[⟨false,0,1,Wl r,false,t⟩]⟩=some (.exit 0,⟨e,[⟨false,0,1,Wl g,false,t⟩]⟩)/\
   Xh e 0=some (.one (.p z))/\Xh e 5=some (.one (.own 0 0 0 (a.length+1)))/\Xh e 6=some (LD f)/\g.length=a.length+1/\WG g/\f<2/\g[a.length]? =some 0/\val g+f*4294967296^a.length=val a+val b
 |_,_,0,_,_,_,h,_,_,_,_,_=>by omega
 |0,i,k+1,r,c,hi,_,h1,h2,h3,h4,h5=>by
  obtain rfl:i=a.length:=by omega
  rw[Yp,Zd l]at h5;have :∃e,Xb E K 0 [0,1,5,6,21,22] x179_1 (k+1) ⟨[(0,.one (.p z)),(1,.one (.p I)),(5,.one (.own 0 0 0 (a.length+1))),(6,LD c),(21,LB a.length),(22,LB a.length)],[⟨false,0,1,Wl r,false,t⟩]⟩=some (.exit 0,⟨e,[⟨false,0,1,Wl r,false,t⟩]⟩)/\
    Xh e 0=some (.one (.p z))/\Xh e 5=some (.one (.own 0 0 0 (a.length+1)))/\Xh e 6=some (LD c):=by
   apply VO
   ·rw[Xb];simp only[Xo,Xr,reduceIte,Nat.reduceEqDiff,x179_1,Zv];rfl
   ·simp only[Xo,reduceIte,Nat.reduceEqDiff,and_self]
  obtain⟨e,o,q,R,S⟩:=this;exact⟨e,r,c,o,q,R,S,h1,h2,h3,h4 _ (Ze _) (Ze _),h5⟩
 |d+1,i,k+1,r,c,hi,hk,h1,h2,h3,h4,h5=>by
  obtain⟨w,u⟩:∃w,a[i]? =some w:=⟨_,Zg (by omega)⟩;have s:i<a.length:=by omega
  have U:=D.get u;have B:=h4 i (Ze _) (by omega);have J:w%18446744073709551616=w:=Zh (by omega);have L:(w+c)%18446744073709551616=w+c:=Zh (by omega);have M:Xe .i64 (.ofNat (i+1))=.ofNat (i+1):=wrap_i64 (by omega);have N:i<a.length+1:=by omega
  by_cases m:i<b.length
  ·obtain⟨v,H⟩:∃v,b[i]? =some v:=⟨_,Zg m⟩;have T:=F.get H;have P:v%18446744073709551616=v:=Zh (by omega);have Q:(w+c+v)%18446744073709551616=w+c+v:=Zh (by omega);obtain⟨e,g,f,o,q⟩:=gF C A D F l O t d (i+1) k (r.set i ((w+c+v)%4294967296)) ((w+c+v) / 4294967296) (by omega) (by omega) (by simpa using h1) (h2.set i (by omega)) (by omega)
    (fun j G n=>by rw[ZK (by omega)];exact h4 j (by omega) n) (by
     have e1:=TM (w:=(w+c+v)%4294967296) B;rw[VI u,VI H];have e2:(w+c+v)%4294967296+4294967296*((w+c+v) / 4294967296)=w+c+v:=Nat.mod_add_div _ _;rw[ZQ];generalize (w+c+v)%4294967296=x at *;generalize (w+c+v) / 4294967296=y at *;generalize 4294967296^i=p at *
     grind)
   refine⟨e,g,f,?_,q⟩;rw[Xb];simp only[Xo,Xr,reduceIte,Nat.reduceEqDiff,Nat.reduceLeDiff,x179_1,s,C.idx u,A.len,m,A.idx H,J,L,M,N,P,Q,X7 B,WQ];exact o
  ·obtain⟨e,g,f,o,q⟩:=gF C A D F l O t d (i+1) k (r.set i ((w+c)%4294967296)) ((w+c) / 4294967296) (by omega) (by omega) (by simpa using h1) (h2.set i (by omega)) (by omega)
    (fun j G n=>by rw[ZK (by omega)];exact h4 j (by omega) n) (by
     have e1:=TM (w:=(w+c)%4294967296) B;rw[VI u,Zd (show b.length<=i+1 by omega)];rw[Zd (show b.length<=i by omega)]at h5;have e2:(w+c)%4294967296+4294967296*((w+c) / 4294967296)=w+c:=Nat.mod_add_div _ _;rw[ZQ];generalize (w+c)%4294967296=x at *;generalize (w+c) / 4294967296=y at *;generalize 4294967296^i=p at *
     grind)
   refine⟨e,g,f,?_,q⟩;rw[Xb];simp only[Xo,Xr,reduceIte,Nat.reduceEqDiff,Nat.reduceLeDiff,x179_1,s,C.idx u,A.len,m,J,L,M,N,X7 B,WQ];exact o
theorem Tx (a:P'){n:Nat}(h:a.length<=n):(Wl a).take n=Wl a:=Zd (by rw[Vv];exact h)
theorem wb {E:Xa}{K:Nat}{g i:PL}{a b:P'}(x:Us g a)(y:Us i b)(k:WG a)(l:WG b)(f:b.length<=a.length)(v:a.length<10000000000000)(t:Nat)(u:a.length<K):
  ∃d c e,Xb E K 0 [0,1,5,6,21,22] x179_1 K ⟨[(0,.one (.p g)),(1,.one (.p i)),(5,.one (.own 0 0 0 (a.length+1))),(6,LD 0),(21,LB a.length),(22,LB 0)],[⟨false,0,1,Wl (List.replicate (a.length+1) 0),false,t⟩]⟩=some (.exit 0,⟨d,[⟨false,0,1,Wl e,false,t⟩]⟩)/\
   Xh d 0=some (.one (.p g))/\Xh d 5=some (.one (.own 0 0 0 (a.length+1)))/\Xh d 6=some (LD c)/\e[a.length]? =some 0/\e.set a.length (c%4294967296)=dg (a.length+1) (val a+val b):=by
 obtain⟨d,e,c,m,n,o,q,r,s,z,h,A⟩:=gF (E:=E) (K:=K) x y k l f v t a.length 0 K (List.replicate (a.length+1) 0) 0 (by omega) u (by simp) (WG.replicate _) (by decide)
  (fun j _ B=>by rw[Yf,if_pos (by omega)]) (by rw[Ue];simp[val])
 refine⟨d,c,e,m,n,o,q,h,TZ (s.set _ (by omega)) (by simpa using r) ?_⟩;have:=TM (w:=c%4294967296) h;rw[Zh (show c<4294967296 by omega)]at this⊢;omega
theorem wa {B:Xs}(g:Std B){w lb:PL}{a b:P'}(i:Us w a)(j:Us lb b)(d:WG a)(e:WG b)(z:a.length<10000000000000)(A:b.length<10000000000000):
  Xu B 179 [.one w,.one lb] (.one (.Xn (Uy (Xd (val a+val b))))):=by
 have v:∀{a b:P'},WG a->WG b->b.length<=a.length->val a+val b<4294967296^(a.length+1):=by
  intro a b d e c;have f:=W3 d;have D:=ZZ (W3 e) (VG c);rw[ZQ];omega
 by_cases c:a.length<b.length
 ·have f:=Rl g (ws:=dg (b.length+1) (val b+val a)) (by rw[Wd];omega);rw[Sh (v e d (by omega)),Nat.add_comm (val b)]at f;refine Xu.of (g.Wa _ _ rfl) (((XS.ge (b.length+1)).and (f.Xk.and g.Xk)).mono fun E K ⟨y,e1,u⟩=> ?_);obtain⟨x,k,C,p,q,r,s,t,h⟩:=wb (E:=E) (K:=K) j i e d (by omega) A 177 (by omega);rw[Nat.add_comm (val b)]at h;have l:Xe .i64 (.ofNat (b.length+1))=.ofNat (b.length+1):=wrap_i64 (by omega);have m:4*(b.length+1)<=lim:=by unfold lim;omega
  have n:b.length+1<=9223372036854775807:=by omega
  have o:b.length<b.length+1:=by omega
  simp only[Xo,Xr,reduceIte,Nat.reduceEqDiff,Nat.reduceLeDiff,x179,i.len,j.len,c,l,m,n,o,Ze,Tn,p,q,r,s,X7 t,WQ,h,Tx _ (YI (Wd (b.length+1) (val a+val b))),Vv,Wd,Um,UA,u,X4,e1]
 ·have f:=Rl g (ws:=dg (a.length+1) (val a+val b)) (by rw[Wd];omega);rw[Sh (v d e (by omega))]at f;refine Xu.of (g.Wa _ _ rfl) (((XS.ge (a.length+1)).and (f.Xk.and g.Xk)).mono fun E K ⟨y,e1,u⟩=> ?_);obtain⟨x,k,C,p,q,r,s,t,h⟩:=wb (E:=E) (K:=K) i j d e (by omega) z 177 (by omega);have l:Xe .i64 (.ofNat (a.length+1))=.ofNat (a.length+1):=wrap_i64 (by omega);have m:4*(a.length+1)<=lim:=by unfold lim;omega
  have n:a.length+1<=9223372036854775807:=by omega
  have o:a.length<a.length+1:=by omega
  simp only[Xo,Xr,reduceIte,Nat.reduceEqDiff,Nat.reduceLeDiff,x179,i.len,j.len,c,l,m,n,o,Ze,Tn,p,q,r,s,X7 t,WQ,h,Tx _ (YI (Wd (a.length+1) (val a+val b))),Vv,Wd,Um,UA,u,X4,e1]
theorem cq {E:Xa}{K:Nat}{s t:PL}{a b:P'}(i:Us s a)(j:Us t b)(q:WG a)(r:WG b)(l:a.length=b.length)(A:a.length<10000000000000):∀(n k:Nat) (H:V'),n<k->n<=a.length->
  ∃c d,Xb E K 0 [0,1,5] x188_1 k ⟨[(0,.one (.p s)),(1,.one (.p t)),(5,.one (.p (.int .i64 (pI n))))],H⟩=some (c,⟨d,H⟩)/\
   ((val (a.take n)=val (b.take n)/\c=.exit 0)\/(val (a.take n)<val (b.take n)/\c=.ret/\Xh d 4=some (.one (.p (.int .i64 (.negSucc 0)))))\/(val (b.take n)<val (a.take n)/\c=.ret/\Xh d 4=some (LB 1)))
 |_,0,_,h,_=>by omega
 |0,k+1,H,_,_=>by
  refine⟨.exit 0,?_⟩;apply VO
  ·rw[Xb];simp only[Xo,Xr,reduceIte,Nat.reduceEqDiff,x188_1,pI];rfl
  ·exact .inl ⟨rfl,rfl⟩
 |n+1,k+1,H,hk,hn=>by
  obtain⟨w,g⟩:∃w,a[n]? =some w:=⟨_,Zg (by omega)⟩;obtain⟨v,f⟩:∃v,b[n]? =some v:=⟨_,Zg (by omega)⟩;have z:=UI (n:=n) (by omega);have B:val (a.take n)<4294967296^n:=by
   have:=W3 (ws:=a.take n) (fun x m=>q x (YC m))
   rwa[ZX,Yy (by omega)]at this
  have C:val (b.take n)<4294967296^n:=by
   have:=W3 (ws:=b.take n) (fun x m=>r x (YC m))
   rwa[ZX,Yy (by omega)]at this
  rw[VI g,VI f];by_cases e:w=v
  ·subst e;obtain⟨c,d,u,y⟩:=cq i j q r l A n k H (by omega) (by omega);refine⟨c,d,?_,y.imp (fun h=>⟨by omega,h.2⟩) fun h=>h.imp (fun h=>⟨by omega,h.2⟩) fun h=>⟨by omega,h.2⟩⟩;rw[Xb];simp only[Xo,Xr,reduceIte,Nat.reduceEqDiff,x188_1,pI,Zw,i.idx g,j.idx f,z];exact u
  ·by_cases o:w<v
   ·have:=Zn (4294967296^n) (show w+1<=v from o);rw[ZG,Z4]at this;refine⟨.ret,?_⟩;apply VO
    ·rw[Xb];simp only[Xo,Xr,reduceIte,Nat.reduceEqDiff,x188_1,pI,Zw,i.idx g,j.idx f,e,o];rfl
    ·exact .inr (.inl ⟨by omega,rfl,by simp only[Xo,reduceIte,Nat.reduceEqDiff]⟩)
   ·have:=Zn (4294967296^n) (show v+1<=w by omega);rw[ZG,Z4]at this;refine⟨.ret,?_⟩;apply VO
    ·rw[Xb];simp only[Xo,Xr,reduceIte,Nat.reduceEqDiff,x188_1,pI,Zw,i.idx g,j.idx f,e,o];rfl
    ·exact .inr (.inr ⟨by omega,rfl,by simp only[Xo,reduceIte]⟩)
def kQ (m n:Nat):Int:=if m<n then .negSucc 0 else if n<m then .ofNat 1 else .ofNat 0
theorem fh {B:Xs}(s:Std B){o p:PL}{a b:P'}(f:Us o a)(g:Us p b)(j:WG a)(m:WG b)(r:Canon a)(l:Canon b)(t:a.length<10000000000000)(x:b.length<10000000000000):
  Xu B 188 [.one o,.one p] (.one (.int .i64 (kQ (val a) (val b)))):=by
 refine Xu.of (s.Wa _ _ rfl) ((XS.ge (a.length+1)).mono fun E K w=> ?_);by_cases c:a.length=b.length
 ·obtain⟨v,u,k,d⟩:=cq (E:=E) (K:=K) f g j m c t a.length K [] (by omega) (Ze _);rw[Yp,c,Yp]at d;rw[c]at k;have i:=UI (n:=b.length) (by omega);unfold kQ;rcases d with⟨e,rfl⟩|⟨e,rfl,d⟩|⟨e,rfl,d⟩
  ·simp only[Xo,Xr,reduceIte,Nat.reduceEqDiff,Nat.reduceLeDiff,x188,f.len,g.len,c,i,k,e,Zv]
  ·simp only[Xo,Xr,reduceIte,Nat.reduceEqDiff,Nat.reduceLeDiff,x188,f.len,g.len,c,i,k,e,d]
  ·simp only[Xo,Xr,reduceIte,Nat.reduceEqDiff,Nat.reduceLeDiff,x188,f.len,g.len,c,i,k,e,d,Nat.lt_asymm e]
 ·have q:∀{a b:P'},WG a->Canon b->a.length<b.length->val a<val b:=by
   intro a b j l h;have i:=ZZ (W3 j) (VG (Nat.le_of_lt_succ (by omega:a.length<b.length-1+1)));exact ZZ i (Px l (by omega))
  unfold kQ;by_cases h:a.length<b.length
  ·have e:=q j l h;simp only[Xo,Xr,reduceIte,Nat.reduceEqDiff,Nat.reduceLeDiff,x188,f.len,g.len,c,h,e]
  ·have e:=q m r (by omega);simp only[Xo,Xr,reduceIte,Nat.reduceEqDiff,Nat.reduceLeDiff,x188,f.len,g.len,c,h,e,Nat.lt_asymm e]
theorem eb {E:Xa}{K:Nat}{J L:PL}{a b:P'}(D:Us J a)(B:Us L b)(F:WG a)(G:WG b)(n:b.length<=a.length)(P:a.length<10000000000000)(t:Nat):
  ∀(d i k:Nat) (r:P') (f:Nat),i+d=a.length->d<k->r.length=a.length->WG r->f<2->(∀j,i<=j->j<a.length->r[j]? =some 0)->val r+val (b.take i)=val (a.take i)+f*4294967296^i->
  ∃e m g,Xb E K 0 [0,1,5,6,13,14] x180_1 k ⟨[(0,.one (.p J)),(1,.one (.p L)),(5,.one (.own 0 0 0 a.length)),(6,LD f),(13,LB a.length),(14,LB i)],[⟨false,0,1,Wl r,false,t⟩]⟩=some (.exit 0,⟨e,[⟨false,0,1,Wl m,false,t⟩]⟩)/\
   Xh e 5=some (.one (.own 0 0 0 a.length))/\m.length=a.length/\WG m/\val m+val b=val a+g*4294967296^a.length
 |_,_,0,_,_,_,h,_,_,_,_,_=>by omega
 |0,i,k+1,r,f,hi,_,h1,h2,h3,h4,h5=>by
  obtain rfl:i=a.length:=by omega
  rw[Yp,Zd n]at h5;have :∃e,Xb E K 0 [0,1,5,6,13,14] x180_1 (k+1) ⟨[(0,.one (.p J)),(1,.one (.p L)),(5,.one (.own 0 0 0 a.length)),(6,LD f),(13,LB a.length),(14,LB a.length)],[⟨false,0,1,Wl r,false,t⟩]⟩=some (.exit 0,⟨e,[⟨false,0,1,Wl r,false,t⟩]⟩)/\
    Xh e 5=some (.one (.own 0 0 0 a.length)):=by
   apply VO
   ·rw[Xb];simp only[Xo,Xr,reduceIte,Nat.reduceEqDiff,x180_1,Zv];rfl
   ·simp only[Xo,reduceIte,Nat.reduceEqDiff]
  obtain⟨e,s,u⟩:=this;exact⟨e,r,f,s,u,h1,h2,h5⟩
 |d+1,i,k+1,r,f,hi,hk,h1,h2,h3,h4,h5=>by
  obtain⟨w,A⟩:∃w,a[i]? =some w:=⟨_,Zg (by omega)⟩;have z:i<a.length:=by omega
  have T:=F.get A;have C:=h4 i (Ze _) (by omega);have N:w%18446744073709551616=w:=Zh (by omega);have O:Xe .i64 (.ofNat (i+1))=.ofNat (i+1):=wrap_i64 (by omega);obtain⟨c,e1,Q⟩:∃c,Xe .u64 (.ofNat w-.ofNat f)=.ofNat c/\c=(w+(18446744073709551616-f))%18446744073709551616:=⟨_,No (by omega),rfl⟩;by_cases o:i<b.length
  ·obtain⟨v,I⟩:∃v,b[i]? =some v:=⟨_,Zg o⟩;have S:=G.get I;have R:v%18446744073709551616=v:=Zh (by omega);obtain⟨l,e2,U⟩:∃l,Xe .u64 (.ofNat c-.ofNat v)=.ofNat l/\l=(c+(18446744073709551616-v))%18446744073709551616:=⟨_,No (by omega),rfl⟩;have M:l%4294967296+f+v=w+4294967296*(l / 9223372036854775808):=by omega
   obtain⟨e,m,g,s,u⟩:=eb D B F G n P t d (i+1) k (r.set i (l%4294967296)) (l / 9223372036854775808) (by omega) (by omega) (by simpa using h1) (h2.set i (by omega)) (by omega)
    (fun j H q=>by rw[ZK (by omega)];exact h4 j (by omega) q) (by
     have e1:=TM (w:=l%4294967296) C;rw[VI A,VI I,ZQ];generalize l%4294967296=x at *;generalize l / 9223372036854775808=y at *;generalize 4294967296^i=p at *;clear Q U
     grind)
   refine⟨e,m,g,?_,u⟩;rw[Xb];simp only[Xo,Xr,reduceIte,Nat.reduceEqDiff,Nat.reduceLeDiff,x180_1,z,D.idx A,B.len,o,B.idx I,N,O,R,e1,e2,X7 C,WQ];exact s
  ·have M:c%4294967296+f=w+4294967296*(c / 9223372036854775808):=by omega
   obtain⟨e,m,g,s,u⟩:=eb D B F G n P t d (i+1) k (r.set i (c%4294967296)) (c / 9223372036854775808) (by omega) (by omega) (by simpa using h1) (h2.set i (by omega)) (by omega)
    (fun j H q=>by rw[ZK (by omega)];exact h4 j (by omega) q) (by
     have e1:=TM (w:=c%4294967296) C;rw[VI A,Zd (show b.length<=i+1 by omega),ZQ];rw[Zd (show b.length<=i by omega)]at h5;generalize c%4294967296=x at *;generalize c / 9223372036854775808=y at *;generalize 4294967296^i=p at *;clear Q
     grind)
   refine⟨e,m,g,?_,u⟩;rw[Xb];simp only[Xo,Xr,reduceIte,Nat.reduceEqDiff,Nat.reduceLeDiff,x180_1,z,D.idx A,B.len,o,N,O,e1,X7 C,WQ];exact s
theorem jO {B:Xs}(d:Std B){n o:PL}{a b:P'}(p:Us n a)(z:Us o b)(i:WG a)(q:WG b)(e:b.length<=a.length)(v:a.length<10000000000000)(G:val b<=val a):
  Xu B 180 [.one n,.one o] (.one (.Xn (Uy (Xd (val a-val b))))):=by
 have x:=W3 i;have m:=Rl d (ws:=dg a.length (val a-val b)) (by rw[Wd];omega);rw[Sh (by omega)]at m;refine Xu.of (d.Wa _ _ rfl) (((XS.ge (a.length+1)).and (m.Xk.and d.Xk)).mono fun E K ⟨D,e1,w⟩=> ?_);obtain⟨A,y,c,t,u,k,l,C⟩:=eb (E:=E) (K:=K) p z i q e v 177 a.length 0 K (List.replicate a.length 0) 0 (by omega) (by omega) (by simp) (WG.replicate _) (by decide)
  (fun j _ F=>by rw[Yf,if_pos (by omega)]) (by rw[Ue];simp[val])
 have g:y=dg a.length (val a-val b):=by
  have:=W3 l;rw[k]at this;have f:c=0:=by
   rcases Yn c with h|h
   ·exact h
   ·have:=Zn (4294967296^a.length) h;omega
  subst f;exact TZ l k (by omega)
 subst g;have r:4*a.length<=lim:=by unfold lim;omega
 have s:a.length<=9223372036854775807:=by omega
 simp only[Xo,Xr,reduceIte,Nat.reduceEqDiff,Nat.reduceLeDiff,x180,p.len,r,s,Ze,Tn,t,u,Tx _ (YI (Wd a.length (val a-val b))),Vv,Wd,Um,UA,w,X4,e1]
theorem Ss {x y z u:Nat}(a:x<4294967296)(b:y<4294967296)(d:z<4294967296)(c:u<4294967296):x*y+z+u<18446744073709551616:=by
 have:=ZT (Nat.le_sub_one_of_lt a) (Nat.le_sub_one_of_lt b);omega
theorem wB {E:Xa}{K:Nat}{la m:PL}{b:P'}(P:Us m b)(G:WG b){e:Nat}(T:e+b.length<10000000000000)(t:Nat){i x:Nat}(q:i<e)(O:x<4294967296)(V:Nat):
  ∀(d j k:Nat) (r:P') (c:Nat),j+d=b.length->d<k->r.length=e+b.length->WG r->c<4294967296->(∀p,i+b.length<=p->p<e+b.length->r[p]? =some 0)->val r+c*4294967296^(i+j)+x*4294967296^(i+j)*val (b.drop j)=V->
  ∃a g f,Xb E K 0 [0,1,5,6,7,8,18,19,28,29] x181_1 k ⟨[(0,.one (.p la)),(1,.one (.p m)),(5,.one (.own 0 0 0 (e+b.length))),(6,LB i),(7,LD c),(8,LD x),(18,LB e),(19,LB i),(28,LB b.length),(29,LB j)],[⟨false,0,1,Wl r,false,t⟩]⟩=some (.exit 2,⟨a,[⟨false,0,1,Wl g,false,t⟩]⟩)/\
   (Xh a 0=some (.one (.p la))/\Xh a 1=some (.one (.p m))/\Xh a 5=some (.one (.own 0 0 0 (e+b.length)))/\Xh a 6=some (LB i)/\Xh a 7=some (LD f)/\Xh a 18=some (LB e)/\Xh a 19=some (LB i))/\
   g.length=e+b.length/\WG g/\f<4294967296/\(∀p,i+b.length<=p->p<e+b.length->g[p]? =some 0)/\val g+f*4294967296^(i+b.length)=V
 |_,_,0,_,_,_,h,_,_,_,_,_=>by omega
 |0,j,k+1,r,c,hi,_,h1,h2,h3,h4,h5=>by
  obtain rfl:j=b.length:=by omega
  have :∃a,Xb E K 0 [0,1,5,6,7,8,18,19,28,29] x181_1 (k+1) ⟨[(0,.one (.p la)),(1,.one (.p m)),(5,.one (.own 0 0 0 (e+b.length))),(6,LB i),(7,LD c),(8,LD x),(18,LB e),(19,LB i),(28,LB b.length),(29,LB b.length)],[⟨false,0,1,Wl r,false,t⟩]⟩=some (.exit 2,⟨a,[⟨false,0,1,Wl r,false,t⟩]⟩)/\
    (Xh a 0=some (.one (.p la))/\Xh a 1=some (.one (.p m))/\Xh a 5=some (.one (.own 0 0 0 (e+b.length)))/\Xh a 6=some (LB i)/\Xh a 7=some (LD c)/\Xh a 18=some (LB e)/\Xh a 19=some (LB i)):=by
   apply VO
   ·rw[Xb];simp only[Xo,Xr,reduceIte,Nat.reduceEqDiff,x181_1,Zv];rfl
   ·simp only[Xo,reduceIte,Nat.reduceEqDiff,and_self]
  obtain⟨a,n,o⟩:=this;refine⟨a,r,c,n,o,h1,h2,h3,h4,?_⟩;rw[List.drop_length]at h5;simpa[val]using h5
 |d+1,j,k+1,r,c,hi,hk,h1,h2,h3,h4,h5=>by
  have l:j<b.length:=by omega
  obtain⟨v,D⟩:∃v,b[j]? =some v:=⟨_,Zg l⟩;obtain⟨u,B⟩:∃u,r[i+j]? =some u:=⟨_,Zg (by omega)⟩;have F:=G.get D;have C:=h2.get B;have N:=Ss O F C h3;have H:v%18446744073709551616=v:=Zh (by omega);have I:u%18446744073709551616=u:=Zh (by omega);have J:(x*v)%18446744073709551616=x*v:=Zh (by omega);have L:(x*v+u)%18446744073709551616=x*v+u:=Zh (by omega);have M:(x*v+u+c)%18446744073709551616=x*v+u+c:=Zh N;have Q:Xe .i64 (.ofNat (i+j))=.ofNat (i+j):=wrap_i64 (by omega);have R:Xe .i64 (.ofNat (j+1))=.ofNat (j+1):=wrap_i64 (by omega);have S:i+j<e+b.length:=by omega
  obtain⟨a,g,f,n,o⟩:=wB (la:=la) P G T t q O V d (j+1) k (r.set (i+j) ((x*v+u+c)%4294967296)) ((x*v+u+c) / 4294967296) (by omega) (by omega) (by simpa using h1) (h2.set _ (by omega)) (by omega)
   (fun p s A=>by rw[ZK (by omega)];exact h4 p s A) (by
    have e1:=TM (w:=(x*v+u+c)%4294967296) B;rw[Oq D]at h5;have e2:(x*v+u+c)%4294967296+4294967296*((x*v+u+c) / 4294967296)=x*v+u+c:=Nat.mod_add_div _ _;rw[show i+(j+1)=(i+j)+1 by omega,ZQ];generalize (x*v+u+c)%4294967296=y at *;generalize (x*v+u+c) / 4294967296=z at *;generalize 4294967296^(i+j)=p at *;clear N J L M H I
    grind)
  refine⟨a,g,f,?_,o⟩;rw[Xb];simp only[Xo,Xr,reduceIte,Nat.reduceEqDiff,Nat.reduceLeDiff,x181_1,l,P.idx D,H,I,J,L,M,Q,R,S,X7 B,WQ];exact n
theorem q6 {E:Xa}{K:Nat}{la q:PL}{a b:P'}(F:Us la a)(v:Us q b)(z:WG a)(A:WG b)(C:a.length+b.length<10000000000000)(B:b.length<K)(t:Nat):
  ∀(d i k:Nat) (r:P'),i+d=a.length->d<k->r.length=a.length+b.length->WG r->(∀p,i+b.length<=p->p<a.length+b.length->r[p]? =some 0)->val r=val (a.take i)*val b->
  ∃c f,Xb E K 0 [0,1,5,18,19] x181_2 k ⟨[(0,.one (.p la)),(1,.one (.p q)),(5,.one (.own 0 0 0 (a.length+b.length))),(18,LB a.length),(19,LB i)],[⟨false,0,1,Wl r,false,t⟩]⟩=some (.exit 0,⟨c,[⟨false,0,1,Wl f,false,t⟩]⟩)/\
   Xh c 5=some (.one (.own 0 0 0 (a.length+b.length)))/\f.length=a.length+b.length/\WG f/\val f=val a*val b
 |_,_,0,_,_,h,_,_,_,_=>by omega
 |0,i,k+1,r,hi,_,h1,h2,h3,h4=>by
  obtain rfl:i=a.length:=by omega
  rw[Yp]at h4;have :∃c,Xb E K 0 [0,1,5,18,19] x181_2 (k+1) ⟨[(0,.one (.p la)),(1,.one (.p q)),(5,.one (.own 0 0 0 (a.length+b.length))),(18,LB a.length),(19,LB a.length)],[⟨false,0,1,Wl r,false,t⟩]⟩=some (.exit 0,⟨c,[⟨false,0,1,Wl r,false,t⟩]⟩)/\Xh c 5=some (.one (.own 0 0 0 (a.length+b.length))):=by
   apply VO
   ·rw[Xb];simp only[Xo,Xr,reduceIte,Nat.reduceEqDiff,x181_2,Zv];rfl
   ·simp only[Xo,reduceIte,Nat.reduceEqDiff]
  obtain⟨c,j,l⟩:=this;exact⟨c,r,j,l,h1,h2,h4⟩
 |d+1,i,k+1,r,hi,hk,h1,h2,h3,h4=>by
  have e:i<a.length:=by omega
  obtain⟨x,n⟩:∃x,a[i]? =some x:=⟨_,Zg e⟩;have o:=z.get n;obtain⟨X,W,y,M,⟨O,P,Q,R,S,T,U⟩,V,s,u,g,N⟩:=wB (E:=E) (K:=K) (la:=la) v A C t e o (val r+x*4294967296^i*val b) b.length 0 K r 0 (by omega) B h1 h2 (by decide) h3 (by simp);have D:=g (i+b.length) (Ze _) (by omega);obtain⟨c,f,j,l⟩:=q6 F v z A C B t d (i+1) k (W.set (i+b.length) (y%4294967296)) (by omega) (by omega) (by simpa using V) (s.set _ (by omega))
   (fun p L m=>by rw[ZK (by omega)];exact g p (by omega) m) (by
    have e1:=TM (w:=y%4294967296) D;rw[Zh u]at e1⊢;rw[VI n,ZG,<-h4];have :x*4294967296^i*val b=x*4294967296^i*val b:=rfl;omega)
  refine⟨c,f,?_,l⟩;have G:x%18446744073709551616=x:=Zh (by omega);have H:Xe .i64 (.ofNat (i+1))=.ofNat (i+1):=wrap_i64 (by omega);have I:Xe .i64 (.ofNat (i+b.length))=.ofNat (i+b.length):=wrap_i64 (by omega);have J:i+b.length<a.length+b.length:=by omega
  rw[Xb];simp only[Xo,Xr,reduceIte,Nat.reduceEqDiff,Nat.reduceLeDiff,x181_2,e,F.idx n,v.len,G,H,I,J,M,O,P,Q,R,S,T,U,X7 D,WQ];exact j
theorem BP {B:Xs}(c:Std B){i k:PL}{a b:P'}(l:Us i a)(m:Us k b)(f:WG a)(g:WG b)(v:a.length+b.length<10000000000000):
  Xu B 181 [.one i,.one k] (.one (.Xn (Uy (Xd (val a*val b))))):=by
 have d:=W3 f;have e:=W3 g;have h:=Rl c (ws:=dg (a.length+b.length) (val a*val b)) (by rw[Wd];omega);rw[Sh (by rw[Yu];exact Nat.mul_lt_mul'' d e)]at h;refine Xu.of (c.Wa _ _ rfl) (((XS.ge (a.length+b.length+1)).and (h.Xk.and c.Xk)).mono fun E K ⟨y,e1,w⟩=> ?_);obtain⟨x,A,q,r,s,t,u⟩:=q6 (E:=E) (K:=K) l m f g v (by omega) 177 a.length 0 K (List.replicate (a.length+b.length) 0) (by omega) (by omega) (by simp) (WG.replicate _)
  (fun j _ z=>by rw[Yf,if_pos (by omega)]) (by rw[Ue];simp[val])
 obtain rfl:=TZ t s u;have n:Xe .i64 (.ofNat (a.length+b.length))=.ofNat (a.length+b.length):=wrap_i64 (by omega);have o:4*(a.length+b.length)<=lim:=by unfold lim;omega
 have p:a.length+b.length<=9223372036854775807:=by omega
 simp only[Xo,Xr,reduceIte,Nat.reduceEqDiff,Nat.reduceLeDiff,x181,l.len,m.len,n,o,p,Ze,Tn,q,r,Tx _ (YI (Wd (a.length+b.length) (val a*val b))),Vv,Wd,Um,UA,w,X4,e1]
theorem VF {B:Xs}(e:Std B){l:PL}{a:P'}(neg:Bool)(s:Us l a)(d:WG a)(i:a.length<10000000000000):∃c,Xu B 172 [.one (.bool neg),.one l] (.agg c)/\Tw c (if neg then -(val a:Int)else val a):=by
 obtain⟨r,g,b⟩:=qn e s (by omega);rw[U3 d rfl]at b;by_cases h0:val a=0
 ·refine⟨[.bool false,.Xq],Xu.of (e.Wa _ _ rfl) ((g.Xk.and e.Xk).mono fun E K ⟨e1,f⟩=> ?_),.Xq,?_,?_⟩
  ·rw[h0,Vn]at b;simp only[Xo,Xr,reduceIte,Nat.reduceEqDiff,Nat.reduceLeDiff,x172,f,X4,e1,b.len]
  ·rw[h0];cases neg<;>rfl
  ·rw[h0];cases neg<;>simp only[Zy,if_false,if_true]<;>exact cK.zero
 ·have h:(Xd (val a)).length≠0:=by rw[To h0];simp
  refine⟨[.bool neg,r],Xu.of (e.Wa _ _ rfl) ((g.Xk.and e.Xk).mono fun E K ⟨e1,f⟩=> ?_),r,?_,?_⟩
  ·simp only[Xo,Xr,reduceIte,Nat.reduceEqDiff,Nat.reduceLeDiff,x172,f,X4,e1,b.len,h]
  ·cases neg
   ·simp only[Zy,if_false];rw[decide_eq_false (by omega)]
   ·simp only[if_true];rw[decide_eq_true (by omega)]
  ·have :(if neg then -(val a:Int)else val a).natAbs=val a:=by cases neg<;>simp
   rw[this];exact b
theorem NS {B:Xs}(f:Std B){l:PL}{b:P'}(s:Us l b)(i:b.length<10000000000000):∃r,Xu B 173 [.one l] (.one r)/\Us r b:=by
 have g:∀h,Wv h (.p l)=some (Wl b,[]):=fun h=>by rw[Sl.chunks s,vW]
 by_cases h0:b=[]
 ·subst h0;refine⟨.Xq,Xu.of (f.Wa _ _ rfl) (XS.of fun K n=> ?_),.nil⟩;have d:∀e n a,WZ e 1 4 n (Wl []) a=some ⟨.one (.p .Xq),[],[],a⟩:=fun _ _ _=>rfl
  simp only[Xo,Xr,reduceIte,Nat.reduceEqDiff,Nat.reduceLeDiff,x173,g,d];simp only[Wl,Xo];simp only[show∀e n a,WZ e 1 4 n [] a=some ⟨.one (.p .Xq),[],[],a⟩from fun _ _ _=>rfl,Xo,reduceIte,Nat.reduceEqDiff]
 ·refine⟨.Xn (Uy b),Xu.of (f.Wa _ _ rfl) (XS.of fun K n=> ?_),.Xn⟩;have d:(Wl b).all (fun c=>decide (c.length=1))=true:=by
   have:=xU b;rw[ZI]at this⊢;intro x j;have:=this x j;rwa[gn]at this
  simp only[Xo,Xr,reduceIte,Nat.reduceEqDiff,Nat.reduceLeDiff,x173,g,d,Aw h0 i,Tx b (Ze _),Vv,Um,Ze]
theorem cO {B:Xs}(a:Std B){m:Nat}(b:m<18446744073709551616):Xu B 177 [.one (LC m)] (.one (.Xn (Uy (Xd m)))):=by
 have c:Xu B 175 [.one (.Xn [[.int .u32 (.ofNat (m%4294967296))],[.int .u32 (.ofNat (m / 4294967296%4294967296))]])] (.one (.Xn (Uy (Xd m)))):=by
  have:=Rl a (ws:=[m%4294967296,m / 4294967296%4294967296]) (by simp);rw[U3 (n:=m) (WG.mk (by omega) (WG.mk (by omega) WG.nil)) (by simp only[val];omega)]at this;exact this
 refine Xu.of (a.Wa _ _ rfl) ((c.Xk.and a.Xk).mono fun E K ⟨e1,b⟩=> ?_);simp only[Xo,Xr,reduceIte,Nat.reduceEqDiff,Nat.reduceLeDiff,Nat.reduceLT,Nat.reduceAdd,x177,b,X4,e1]
theorem Hy {B:Xs}(b:Std B){m:Nat}(j:m<9223372036854775808):∃c,Xu B 155 [.one (LA m)] (.agg c)/\Tw c m:=by
 have g:=cO b (m:=m) (by omega);have a:(Xd m).length<10000000000000:=by
  rcases Yx (Xd m).length 3 with h|h
  ·omega
  ·have:=Px (Vc m) (by omega);rw[Xm]at this;have:=Zx (VG (show 2<=(Xd m).length-1 by omega)) this;simp at this;omega
 obtain⟨c,i,d⟩:=VF b false (l:=.Xn (Uy (Xd m))) .Xn (Xp m) a;rw[Xm]at d;refine⟨c,Xu.of (b.Wa _ _ rfl) ((g.Xk.and (i.Xk.and b.Xk)).mono fun E K ⟨e1,e2,e⟩=> ?_),by simpa using d⟩;obtain⟨l,rfl,-⟩:=d;have f:m%18446744073709551616=m:=Zh (by omega);simp only[Xo,Xr,reduceIte,Nat.reduceEqDiff,Nat.reduceLeDiff,Nat.reduceAdd,x155,f,Nat.not_lt_zero,e,X4,e1,e2]
theorem qF {B:Xs}(e:Std B){c:N'}{z:Int}(f:Tw c z):Xu B 146 [.agg c] (.one (.int .i64 (nS z))):=by
 obtain⟨m,rfl,a⟩:=f;refine Xu.of (e.Wa _ _ rfl) (XS.of fun K n=> ?_);unfold nS;by_cases h0:z=0
 ·subst h0;have:=a.len;rw[show Int.natAbs 0=0 from rfl,Vn]at this;simp only[Xo,Xr,reduceIte,Nat.reduceEqDiff,Nat.reduceLeDiff,Nat.reduceAdd,x146,this]
 ·have d:(Xd z.natAbs).length≠0:=by rw[Ne,VE];omega
  by_cases b:z<0
  ·simp only[Xo,Xr,reduceIte,Nat.reduceEqDiff,Nat.reduceLeDiff,Nat.reduceAdd,x146,a.len,d,h0,b]
  ·simp only[Xo,Xr,reduceIte,Nat.reduceEqDiff,Nat.reduceLeDiff,Nat.reduceAdd,x146,a.len,d,h0,b]
theorem R8 {B:Xs}(h:Std B){c:N'}{z:Int}(i:Tw c z):Xu B 152 [.agg c] (.one (.bool (decide (z=1)))):=by
 obtain⟨m,rfl,d⟩:=i;refine Xu.of (h.Wa _ _ rfl) (XS.of fun K n=> ?_);by_cases b:z<0
 ·have :z≠1:=by omega
  simp only[Xo,Xr,reduceIte,Nat.reduceEqDiff,Nat.reduceLeDiff,Nat.reduceAdd,x152,b,this]
 ·by_cases a:(Xd z.natAbs).length=1
  ·obtain⟨e,f⟩:=T6.1 a;have j:(Xd z.natAbs)[0]? =some z.natAbs:=by rw[On e f];rfl
   have g:(z.natAbs=1)=(z=1):=by simp only[eq_iff_iff];omega
   simp only[Xo,Xr,reduceIte,Nat.reduceEqDiff,Nat.reduceLeDiff,Nat.reduceAdd,x152,b,d.len,a,d.idx j,g]
  ·have :z≠1:=by
    rintro rfl;exact a (by rw[T6];decide)
   simp only[Xo,Xr,reduceIte,Nat.reduceEqDiff,Nat.reduceLeDiff,Nat.reduceAdd,x152,b,d.len,a,this]
theorem rX (m n:Nat):w9 (.ofNat 0) (kQ m n)=decide (n<=m):=by
 unfold kQ;by_cases h:m<n
 ·rw[if_pos h,decide_eq_false (by omega)];rfl
 ·rw[if_neg h,decide_eq_true (by omega)];split<;>rfl
theorem oo {B:Xs}(b:Std B){c:N'}{z:Int}(j:Tw c z)(n:Sm z):∃a,Xu B 147 [.agg c] (.agg a)/\Tw a (-z):=by
 obtain⟨m,rfl,k⟩:=j;unfold Sm at n;obtain⟨r,f,g⟩:=NS b k (by omega);obtain⟨a,i,d⟩:=VF b (!decide (z<0)) g (Xp _) (by omega);rw[Xm]at d;refine⟨a,Xu.of (b.Wa _ _ rfl) ((f.Xk.and (i.Xk.and b.Xk)).mono fun E K ⟨e1,e2,e⟩=> ?_),?_⟩
 ·obtain⟨l,rfl,-⟩:=d;simp(decide:=true)only[Xo,Xr,reduceIte,Nat.reduceAdd,x147,e,X4,e1,e2]
 ·have : -z=(if(!decide (z<0))=true then -(z.natAbs:Int)else z.natAbs):=by
   by_cases h:z<0
   ·simp[h];omega
   ·simp[h];omega
  rw[this];exact d
theorem E4 {B:Xs}(b:Std B){c d:N'}{x y:Int}(o:Tw c x)(p:Tw d y)(t:Sm x)(u:Sm y):∃e,Xu B 156 [.agg c,.agg d] (.agg e)/\Tw e (x*y):=by
 obtain⟨m,rfl,q⟩:=o;obtain⟨n,rfl,r⟩:=p;unfold Sm at t u;have i:=BP b q r (Xp _) (Xp _) (by omega);rw[Xm,Xm]at i;have a:(Xd (x.natAbs*y.natAbs)).length<10000000000000:=by
  have:=UP x.natAbs y.natAbs;omega
 obtain⟨e,j,f⟩:=VF b (decide (x<0)!=decide (y<0)) (l:=.Xn (Uy (Xd (x.natAbs*y.natAbs)))) .Xn (Xp _) a;rw[Xm]at f;refine⟨e,Xu.of (b.Wa _ _ rfl) ((i.Xk.and (j.Xk.and b.Xk)).mono fun E K ⟨e1,e2,g⟩=> ?_),?_⟩
 ·obtain⟨l,rfl,-⟩:=f;have s:((decide (x<0)==decide (y<0))!=true)=(decide (x<0)!=decide (y<0)):=by
   cases decide (x<0)<;>cases decide (y<0)<;>rfl
  simp(decide:=true)only[Xo,Xr,reduceIte,Nat.reduceAdd,x156,g,X4,e1,e2,s]
 ·have :x*y=(if(decide (x<0)!=decide (y<0))=true then -((x.natAbs*y.natAbs:Nat):Int)else((x.natAbs*y.natAbs:Nat):Int)):=by
   rw[Int.natCast_mul];by_cases h:x<0<;>by_cases k:y<0
   ·simp only[h,k,decide_true,bne_self_eq_false,Zy,if_false];rw[show(x.natAbs:Int)= -x by omega,show(y.natAbs:Int)= -y by omega];grind
   ·simp only[h,k,decide_true,decide_false,bne_iff_ne,ne_eq,Bool.true_eq_false,not_false_eq_true,if_true];rw[show(x.natAbs:Int)= -x by omega,show(y.natAbs:Int)=y by omega];grind
   ·simp only[h,k,decide_true,decide_false,bne_iff_ne,ne_eq,Zy,not_false_eq_true,if_true];rw[show(x.natAbs:Int)=x by omega,show(y.natAbs:Int)= -y by omega];grind
   ·simp only[h,k,decide_false,bne_self_eq_false,Zy,if_false];rw[show(x.natAbs:Int)=x by omega,show(y.natAbs:Int)=y by omega]
  rw[this];exact f
theorem FZ {B:Xs}(b:Std B){c d:N'}{x y:Int}(v:Tw c x)(w:Tw d y)(z:Sm x)(A:Sm y):∃e,Xu B 182 [.agg c,.agg d] (.agg e)/\Tw e (x+y):=by
 obtain⟨m,rfl,r⟩:=v;obtain⟨n,rfl,s⟩:=w;unfold Sm at z A;by_cases p:decide (x<0)=decide (y<0)
 ·have j:=wa b r s (Xp _) (Xp _) (by omega) (by omega);rw[Xm,Xm]at j;have a:(Xd (x.natAbs+y.natAbs)).length<10000000000000:=by
   have:=UQ x.natAbs y.natAbs;omega
  obtain⟨e,o,f⟩:=VF b (decide (x<0)) (l:=.Xn (Uy (Xd (x.natAbs+y.natAbs)))) .Xn (Xp _) a;rw[Xm]at f;refine⟨e,Xu.of (b.Wa _ _ rfl) ((j.Xk.and (o.Xk.and b.Xk)).mono fun E K ⟨e1,e2,g⟩=> ?_),?_⟩
  ·obtain⟨l,rfl,-⟩:=f;rw[<-p];have t:(decide (x<0)==decide (x<0))=true:=beq_self_eq_true _;simp(decide:=true)only[Xo,Xr,reduceIte,Nat.reduceAdd,x182,g,X4,e1,e2,t]
  ·have :x+y=(if decide (x<0)=true then -((x.natAbs+y.natAbs:Nat):Int)else((x.natAbs+y.natAbs:Nat):Int)):=by
    by_cases h:x<0
    ·have k:y<0:=by simpa[h]using p
     simp only[h,decide_true,if_true];omega
    ·have k:¬y<0:=by simpa[h]using p
     simp only[h,decide_false,Zy,if_false];omega
   rw[this];exact f
 ·have t:(decide (x<0)==decide (y<0))=false:=by simpa using p
  have h0:=fh b r s (Xp _) (Xp _) (Vc _) (Vc _) (by omega) (by omega);rw[Xm,Xm]at h0;have q:(x<0/\¬y<0)\/(¬x<0/\y<0):=by
   by_cases h:x<0<;>by_cases k:y<0<;>simp[h,k]at p⊢
  by_cases i:y.natAbs<=x.natAbs
  ·have j:=jO b r s (Xp _) (Xp _) (XN i) (by omega) (by rw[Xm,Xm];exact i);rw[Xm,Xm]at j;have a:(Xd (x.natAbs-y.natAbs)).length<10000000000000:=by
    have:=XN (Nat.sub_le x.natAbs y.natAbs);omega
   obtain⟨e,o,f⟩:=VF b (decide (x<0)) (l:=.Xn (Uy (Xd (x.natAbs-y.natAbs)))) .Xn (Xp _) a;rw[Xm]at f;refine⟨e,Xu.of (b.Wa _ _ rfl) ((h0.Xk.and (j.Xk.and (o.Xk.and b.Xk))).mono fun E K ⟨u,e1,e2,g⟩=> ?_),?_⟩
   ·obtain⟨l,rfl,-⟩:=f;simp(decide:=true)only[Xo,Xr,reduceIte,Nat.reduceAdd,x182,g,X4,u,e1,e2,t,rX,i]
   ·have :x+y=(if decide (x<0)=true then -((x.natAbs-y.natAbs:Nat):Int)else((x.natAbs-y.natAbs:Nat):Int)):=by
     rcases q with⟨h,k⟩|⟨h,k⟩
     ·simp only[h,decide_true,if_true];omega
     ·simp only[h,decide_false,Zy,if_false];omega
    rw[this];exact f
  ·have j:=jO b s r (Xp _) (Xp _) (XN (by omega)) (by omega) (by rw[Xm,Xm];omega);rw[Xm,Xm]at j;have a:(Xd (y.natAbs-x.natAbs)).length<10000000000000:=by
    have:=XN (Nat.sub_le y.natAbs x.natAbs);omega
   obtain⟨e,o,f⟩:=VF b (decide (y<0)) (l:=.Xn (Uy (Xd (y.natAbs-x.natAbs)))) .Xn (Xp _) a;rw[Xm]at f;refine⟨e,Xu.of (b.Wa _ _ rfl) ((h0.Xk.and (j.Xk.and (o.Xk.and b.Xk))).mono fun E K ⟨u,e1,e2,g⟩=> ?_),?_⟩
   ·obtain⟨l,rfl,-⟩:=f;simp(decide:=true)only[Xo,Xr,reduceIte,Nat.reduceAdd,x182,g,X4,u,e1,e2,t,rX,i]
   ·have :x+y=(if decide (y<0)=true then -((y.natAbs-x.natAbs:Nat):Int)else((y.natAbs-x.natAbs:Nat):Int)):=by
     rcases q with⟨h,k⟩|⟨h,k⟩
     ·simp only[k,decide_false,Zy,if_false];omega
     ·simp only[k,decide_true,if_true];omega
    rw[this];exact f
theorem Rn {B:Xs}(b:Std B){c d:N'}{x y:Int}(r:Tw c x)(s:Tw d y)(H:Sm x)(I:Sm y):∃e,Xu B 117 [.one (.Xn [c,d])] (.agg e)/\Tw e (x*y):=by
 obtain⟨u,q,v⟩:=Hy b (m:=1) (by decide);have p:=R8 b v;have o:=R8 b r;have h:=R8 b s;obtain⟨P,Q,F⟩:=v.len;obtain⟨L,M,A⟩:=r.len;obtain⟨N,O,C⟩:=s.len;subst F A C;rw[decide_eq_true (by rfl:((1:Nat):Int)=1)]at p;by_cases g:x=1
 ·rw[decide_eq_true g]at o;by_cases a:y=1
  ·rw[decide_eq_true a]at h;refine⟨_,Xu.of (b.Wa _ _ rfl) ((q.Xk.and (p.Xk.and (o.Xk.and (h.Xk.and (b.Xk.and (XS.ge 3)))))).mono fun E K ⟨e1,e2,i,j,n,t⟩=> ?_),by rw[g,a];exact v⟩;obtain⟨f,rfl⟩:∃f,K=f+3:=⟨K-3,by omega⟩;have k:Xe .i64 (.ofNat 1)=.ofNat 1:=rfl;have l:Xe .i64 (.ofNat 2)=.ofNat 2:=rfl;simp(decide:=true)only[Xo,Xr,reduceIte,Nat.reduceAdd,x117,x117_1,Xb,n,X4,e1,i,j,k,l]
  ·rw[decide_eq_false a]at h;refine⟨_,Xu.of (b.Wa _ _ rfl) ((q.Xk.and (p.Xk.and (o.Xk.and (h.Xk.and (b.Xk.and (XS.ge 3)))))).mono fun E K ⟨e1,e2,i,j,n,t⟩=> ?_),by rw[g,Int.one_mul];exact s⟩;obtain⟨f,rfl⟩:∃f,K=f+3:=⟨K-3,by omega⟩;have k:Xe .i64 (.ofNat 1)=.ofNat 1:=rfl;have l:Xe .i64 (.ofNat 2)=.ofNat 2:=rfl;simp(decide:=true)only[Xo,Xr,reduceIte,Nat.reduceAdd,x117,x117_1,Xb,n,X4,e1,e2,i,j,k,l]
 ·have J:=o;rw[decide_eq_false g]at o;by_cases a:y=1
  ·rw[decide_eq_true a]at h;refine⟨_,Xu.of (b.Wa _ _ rfl) ((q.Xk.and (p.Xk.and (o.Xk.and (h.Xk.and (b.Xk.and (XS.ge 3)))))).mono fun E K ⟨e1,e2,i,j,n,t⟩=> ?_),by rw[a,Int.mul_one];exact r⟩;obtain⟨f,rfl⟩:∃f,K=f+3:=⟨K-3,by omega⟩;have k:Xe .i64 (.ofNat 1)=.ofNat 1:=rfl;have l:Xe .i64 (.ofNat 2)=.ofNat 2:=rfl;simp(decide:=true)only[Xo,Xr,reduceIte,Nat.reduceAdd,x117,x117_1,Xb,n,X4,e1,e2,i,j,k,l]
  ·rw[decide_eq_false a]at h;obtain⟨e,G,w⟩:=E4 b r s H I;obtain⟨e1,e2,D⟩:=w.len;subst D;refine⟨_,Xu.of (b.Wa _ _ rfl) ((q.Xk.and (p.Xk.and (o.Xk.and (h.Xk.and (G.Xk.and (b.Xk.and (XS.ge 3))))))).mono fun E K ⟨e1,e2,i,j,z,n,t⟩=> ?_),w⟩;obtain⟨f,rfl⟩:∃f,K=f+3:=⟨K-3,by omega⟩;have k:Xe .i64 (.ofNat 1)=.ofNat 1:=rfl;have l:Xe .i64 (.ofNat 2)=.ofNat 2:=rfl;simp(decide:=true)only[Xo,Xr,reduceIte,Nat.reduceAdd,x117,x117_1,Xb,n,X4,e1,e2,i,j,z,k,l]
def Lx (c:N')(z:Int):Prop:=∃n m d e,c=[.bool n,m,.bool d,e]/\Tw [.bool n,m] z/\Tw [.bool d,e] 1
theorem u3 {B:Xs}(a:Std B){c d:N'}{x:Int}(h:Tw c x)(b:Tw d 1):Xu B 116 [.agg c,.agg d] (.agg (c++d)):=by
 have e:=R8 a b;obtain⟨j,k,f⟩:=h.len;obtain⟨l,m,g⟩:=b.len;subst f g;rw[decide_eq_true rfl]at e;refine Xu.of (a.Wa _ _ rfl) ((e.Xk.and a.Xk).mono fun E K ⟨e1,i⟩=> ?_);simp(decide:=true)only[Xo,Xr,reduceIte,Nat.reduceAdd,x116,i,X4,e1]
end Go.Proofs.YtidginchkjhobaaGreat
