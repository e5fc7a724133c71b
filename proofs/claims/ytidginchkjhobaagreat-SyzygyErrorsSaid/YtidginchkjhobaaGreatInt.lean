/- Package integer: words. -/
import Derived.Test.YtidginchkjhobaaGreatStd
namespace Go.Proofs.YtidginchkjhobaaGreat
open Go.Ev Go.Num
theorem bc {E:Xa}{K:Nat}{l:PL}{a:List Nat}(s:Ui l a)(g:a.length<9223372036854775808):∀(n k:Nat) (H:List Xz),n<k->n<=a.length->
  ∃b,Xb E K 0 [0,3] x175_1 k ⟨[(0,.one (.p l)),(3,.one (.p (.int .i64 (.ofNat n))))],H⟩=some (.exit 0,⟨b,H⟩)/\Xh b 0=some (.one (.p l))/\Xh b 3=some (.one (.p (.int .i64 (.ofNat (Va (a.take n)).length))))
 |_,0,_,h,_=>by omega
 |0,k+1,H,_,_=>by
  apply VE
  ·rw[Xb];simp only[Xm,Xq,reduceIte,Nat.reduceEqDiff,x175_1,Zx];rfl
  ·simp only[Xm,reduceIte,Nat.reduceEqDiff,Va,and_self]
 |n+1,k+1,H,hk,hn=>by
  obtain⟨w,c⟩:∃w,a[n]? =some w:=⟨_,Zf (by omega)⟩;have d:Xe .i64 (Int.ofNat (n+1)-Int.ofNat 1)=Int.ofNat n:=Wj (by omega) (by omega);rw[iT c,ba];by_cases h0:w=0
  ·subst h0;obtain⟨b,e,f⟩:=bc s g n k H (by omega) (by omega);refine⟨b,?_,f⟩;rw[Xb];simp only[Xm,Xq,reduceIte,Nat.reduceEqDiff,x175_1,YP,d,s.idx c];exact e
  ·apply VE
   ·rw[Xb];simp only[Xm,Xq,reduceIte,Nat.reduceEqDiff,x175_1,YP,d,s.idx c,h0];rfl
   ·simp only[Xm,reduceIte,Nat.reduceEqDiff,h0,Zk,ZO,Yt (show n<=a.length by omega),and_self]
theorem SJ {B:Xs}(g:Std B){ws:List Nat}(i:ws.length<9223372036854775808):Xx B 175 [.one (.Xp (Ub ws))] (.one (.Xp (Ub (Va ws)))):=by
 have s:Ui (.Xp (Ub ws)) ws:=.Xp;refine Xx.of (g.Wa _ _ rfl) ((X1.ge (ws.length+1)).mono fun E K k=> ?_);obtain⟨j,d,e,b⟩:=bc (E:=E) (K:=K) s i ws.length K [] (by omega) (Zh _);rw[Yv]at b;have a:∀h,WI 1 h (.p (.Xp (Ub ws))) 0 (some (Va ws).length)=some (.p (.Xp (Ub (Va ws))),[]):=by
  intro h;obtain⟨r,a,c⟩:=s.upto (n:=(Va ws).length) (NO ws);have:=a h;rw[<-dN]at c;rcases c with rfl|⟨-,rfl⟩
  ·exact this
  ·simp only[WI]at this;obtain⟨-,f⟩:=Xv this;simp at f
 simp only[Xm,Xq,reduceIte,Nat.reduceEqDiff,Nat.reduceLeDiff,x175,s.len,d,e,b,a]
theorem mO {B:Xs}(g:Std B){l:PL}{a:List Nat}(s:Ui l a)(h:a.length<9223372036854775808):∃r,Xx B 175 [.one l] (.one r)/\Ui r (Va a):=by
 obtain⟨r,f,c⟩:=s.upto (n:=(Va a).length) (NO a);rw[<-dN]at c;refine⟨r,Xx.of (g.Wa _ _ rfl) ((X1.ge (a.length+1)).mono fun E K j=> ?_),c⟩;obtain⟨i,d,e,b⟩:=bc (E:=E) (K:=K) s h a.length K [] (by omega) (Zh _);rw[Yv]at b;simp only[Xm,Xq,reduceIte,Nat.reduceEqDiff,Nat.reduceLeDiff,x175,s.len,d,e,b,f]
theorem eI {E:Xa}{K:Nat}{z I:PL}{a b:List Nat}(C:Ui z a)(A:Ui I b)(D:Wz a)(F:Wz b)(l:b.length<=a.length)(O:a.length<1000000000000)(t:Nat):
  ∀(d i k:Nat) (r:List Nat) (c:Nat),i+d=a.length->d<k->r.length=a.length+1->Wz r->c<2->(∀j,i<=j->j<=a.length->r[j]? =some 0)->val r+c*4294967296^i=val (a.take i)+val (b.take i)->
  ∃e g f,Xb E K 0 [0,1,5,6,21,22] x179_1 k ⟨[(0,.one (.p z)),(1,.one (.p I)),(5,.one (.own 0 0 0 (a.length+1))),(6,.one (.p (.int .u64 (.ofNat c)))),(21,.one (.p (.int .i64 (.ofNat a.length)))),(22,.one (.p (.int .i64 (.ofNat i))))],[⟨false,0,1,Wi r,false,t⟩]⟩=some (.exit 0,⟨e,[⟨false,0,1,Wi g,false,t⟩]⟩)/\
   Xh e 0=some (.one (.p z))/\Xh e 5=some (.one (.own 0 0 0 (a.length+1)))/\Xh e 6=some (.one (.p (.int .u64 (.ofNat f))))/\g.length=a.length+1/\Wz g/\f<2/\g[a.length]? =some 0/\val g+f*4294967296^a.length=val a+val b
 |_,_,0,_,_,_,h,_,_,_,_,_=>by omega
 |0,i,k+1,r,c,hi,_,h1,h2,h3,h4,h5=>by
  obtain rfl:i=a.length:=by omega
  rw[Yv,Zd l]at h5;have :∃e,Xb E K 0 [0,1,5,6,21,22] x179_1 (k+1) ⟨[(0,.one (.p z)),(1,.one (.p I)),(5,.one (.own 0 0 0 (a.length+1))),(6,.one (.p (.int .u64 (.ofNat c)))),(21,.one (.p (.int .i64 (.ofNat a.length)))),(22,.one (.p (.int .i64 (.ofNat a.length))))],[⟨false,0,1,Wi r,false,t⟩]⟩=some (.exit 0,⟨e,[⟨false,0,1,Wi r,false,t⟩]⟩)/\
    Xh e 0=some (.one (.p z))/\Xh e 5=some (.one (.own 0 0 0 (a.length+1)))/\Xh e 6=some (.one (.p (.int .u64 (.ofNat c)))):=by
   apply VE
   ·rw[Xb];simp only[Xm,Xq,reduceIte,Nat.reduceEqDiff,x179_1,Zx];rfl
   ·simp only[Xm,reduceIte,Nat.reduceEqDiff,and_self]
  obtain⟨e,o,q,R,S⟩:=this;exact⟨e,r,c,o,q,R,S,h1,h2,h3,h4 _ (Zh _) (Zh _),h5⟩
 |d+1,i,k+1,r,c,hi,hk,h1,h2,h3,h4,h5=>by
  obtain⟨w,u⟩:∃w,a[i]? =some w:=⟨_,Zf (by omega)⟩;have s:i<a.length:=by omega
  have U:=D.get u;have B:=h4 i (Zh _) (by omega);have J:w%18446744073709551616=w:=Zg (by omega);have L:(w+c)%18446744073709551616=w+c:=Zg (by omega);have M:Xe .i64 (.ofNat (i+1))=.ofNat (i+1):=wrap_i64 (by omega);have N:i<a.length+1:=by omega
  by_cases m:i<b.length
  ·obtain⟨v,H⟩:∃v,b[i]? =some v:=⟨_,Zf m⟩;have T:=F.get H;have P:v%18446744073709551616=v:=Zg (by omega);have Q:(w+c+v)%18446744073709551616=w+c+v:=Zg (by omega);obtain⟨e,g,f,o,q⟩:=eI C A D F l O t d (i+1) k (r.set i ((w+c+v)%4294967296)) ((w+c+v) / 4294967296) (by omega) (by omega) (by simpa using h1) (h2.set i (by omega)) (by omega)
    (fun j G n=>by rw[ZM (by omega)];exact h4 j (by omega) n) (by
     have e1:=Tm (w:=(w+c+v)%4294967296) B;rw[Vl u,Vl H];have e2:(w+c+v)%4294967296+4294967296*((w+c+v) / 4294967296)=w+c+v:=Nat.mod_add_div _ _;rw[ZK];generalize (w+c+v)%4294967296=x at *;generalize (w+c+v) / 4294967296=y at *;generalize 4294967296^i=p at *
     grind)
   refine⟨e,g,f,?_,q⟩;rw[Xb];simp only[Xm,Xq,reduceIte,Nat.reduceEqDiff,Nat.reduceLeDiff,x179_1,s,C.idx u,A.len,m,A.idx H,J,L,M,N,P,Q,X2 B,WH];exact o
  ·obtain⟨e,g,f,o,q⟩:=eI C A D F l O t d (i+1) k (r.set i ((w+c)%4294967296)) ((w+c) / 4294967296) (by omega) (by omega) (by simpa using h1) (h2.set i (by omega)) (by omega)
    (fun j G n=>by rw[ZM (by omega)];exact h4 j (by omega) n) (by
     have e1:=Tm (w:=(w+c)%4294967296) B;rw[Vl u,Zd (show b.length<=i+1 by omega)];rw[Zd (show b.length<=i by omega)]at h5;have e2:(w+c)%4294967296+4294967296*((w+c) / 4294967296)=w+c:=Nat.mod_add_div _ _;rw[ZK];generalize (w+c)%4294967296=x at *;generalize (w+c) / 4294967296=y at *;generalize 4294967296^i=p at *
     grind)
   refine⟨e,g,f,?_,q⟩;rw[Xb];simp only[Xm,Xq,reduceIte,Nat.reduceEqDiff,Nat.reduceLeDiff,x179_1,s,C.idx u,A.len,m,J,L,M,N,X2 B,WH];exact o
theorem U5 (a:List Nat){n:Nat}(h:a.length<=n):(Wi a).take n=Wi a:=Zd (by rw[Vd];exact h)
theorem sJ {E:Xa}{K:Nat}{g i:PL}{a b:List Nat}(x:Ui g a)(y:Ui i b)(k:Wz a)(l:Wz b)(f:b.length<=a.length)(v:a.length<1000000000000)(t:Nat)(u:a.length<K):
  ∃d c e,Xb E K 0 [0,1,5,6,21,22] x179_1 K ⟨[(0,.one (.p g)),(1,.one (.p i)),(5,.one (.own 0 0 0 (a.length+1))),(6,.one (.p (.int .u64 (.ofNat 0)))),(21,.one (.p (.int .i64 (.ofNat a.length)))),(22,.one (.p (.int .i64 (.ofNat 0))))],[⟨false,0,1,Wi (List.replicate (a.length+1) 0),false,t⟩]⟩=some (.exit 0,⟨d,[⟨false,0,1,Wi e,false,t⟩]⟩)/\
   Xh d 0=some (.one (.p g))/\Xh d 5=some (.one (.own 0 0 0 (a.length+1)))/\Xh d 6=some (.one (.p (.int .u64 (.ofNat c))))/\e[a.length]? =some 0/\e.set a.length (c%4294967296)=dg (a.length+1) (val a+val b):=by
 obtain⟨d,e,c,m,n,o,q,r,s,z,h,A⟩:=eI (E:=E) (K:=K) x y k l f v t a.length 0 K (List.replicate (a.length+1) 0) 0 (by omega) u (by simp) (Wz.replicate _) (by decide)
  (fun j _ B=>by rw[Yd,if_pos (by omega)]) (by rw[VO];simp[val])
 refine⟨d,c,e,m,n,o,q,h,Tx (s.set _ (by omega)) (by simpa using r) ?_⟩;have:=Tm (w:=c%4294967296) h;rw[Zg (show c<4294967296 by omega)]at this⊢;omega
theorem sH {B:Xs}(g:Std B){w lb:PL}{a b:List Nat}(i:Ui w a)(j:Ui lb b)(d:Wz a)(e:Wz b)(z:a.length<1000000000000)(A:b.length<1000000000000):
  Xx B 179 [.one w,.one lb] (.one (.Xp (Ub (Xd (val a+val b))))):=by
 have v:∀{a b:List Nat},Wz a->Wz b->b.length<=a.length->val a+val b<4294967296^(a.length+1):=by
  intro a b d e c;have f:=WW d;have D:=Z2 (WW e) (Vj c);rw[ZK];omega
 by_cases c:a.length<b.length
 ·have f:=SJ g (ws:=dg (b.length+1) (val b+val a)) (by rw[X9];omega);rw[TJ (v e d (by omega)),Y1 (val b)]at f;refine Xx.of (g.Wa _ _ rfl) (((X1.ge (b.length+1)).and (f.Xj.and g.Xj)).mono fun E K ⟨y,e1,u⟩=> ?_);obtain⟨x,k,C,p,q,r,s,t,h⟩:=sJ (E:=E) (K:=K) j i e d (by omega) A 177 (by omega);rw[Y1 (val b)]at h;have l:Xe .i64 (.ofNat (b.length+1))=.ofNat (b.length+1):=wrap_i64 (by omega);have m:4*(b.length+1)<=lim:=by unfold lim;omega
  have n:b.length+1<=9223372036854775807:=by omega
  have o:b.length<b.length+1:=by omega
  simp only[Xm,Xq,reduceIte,Nat.reduceEqDiff,Nat.reduceLeDiff,x179,i.len,j.len,c,l,m,n,o,Zh,U0,p,q,r,s,X2 t,WH,h,U5 _ (Y0 (X9 (b.length+1) (val a+val b))),Vd,X9,VX,Uf,u,X5,e1]
 ·have f:=SJ g (ws:=dg (a.length+1) (val a+val b)) (by rw[X9];omega);rw[TJ (v d e (by omega))]at f;refine Xx.of (g.Wa _ _ rfl) (((X1.ge (a.length+1)).and (f.Xj.and g.Xj)).mono fun E K ⟨y,e1,u⟩=> ?_);obtain⟨x,k,C,p,q,r,s,t,h⟩:=sJ (E:=E) (K:=K) i j d e (by omega) z 177 (by omega);have l:Xe .i64 (.ofNat (a.length+1))=.ofNat (a.length+1):=wrap_i64 (by omega);have m:4*(a.length+1)<=lim:=by unfold lim;omega
  have n:a.length+1<=9223372036854775807:=by omega
  have o:a.length<a.length+1:=by omega
  simp only[Xm,Xq,reduceIte,Nat.reduceEqDiff,Nat.reduceLeDiff,x179,i.len,j.len,c,l,m,n,o,Zh,U0,p,q,r,s,X2 t,WH,h,U5 _ (Y0 (X9 (a.length+1) (val a+val b))),Vd,X9,VX,Uf,u,X5,e1]
theorem aG {E:Xa}{K:Nat}{s t:PL}{a b:List Nat}(i:Ui s a)(j:Ui t b)(q:Wz a)(r:Wz b)(l:a.length=b.length)(A:a.length<1000000000000):∀(n k:Nat) (H:List Xz),n<k->n<=a.length->
  ∃c d,Xb E K 0 [0,1,5] x188_1 k ⟨[(0,.one (.p s)),(1,.one (.p t)),(5,.one (.p (.int .i64 (pI n))))],H⟩=some (c,⟨d,H⟩)/\
   ((val (a.take n)=val (b.take n)/\c=.exit 0)\/(val (a.take n)<val (b.take n)/\c=.ret/\Xh d 4=some (.one (.p (.int .i64 (.negSucc 0)))))\/(val (b.take n)<val (a.take n)/\c=.ret/\Xh d 4=some (.one (.p (.int .i64 (.ofNat 1))))))
 |_,0,_,h,_=>by omega
 |0,k+1,H,_,_=>by
  refine⟨.exit 0,?_⟩;apply VE
  ·rw[Xb];simp only[Xm,Xq,reduceIte,Nat.reduceEqDiff,x188_1,pI];rfl
  ·exact .inl ⟨rfl,rfl⟩
 |n+1,k+1,H,hk,hn=>by
  obtain⟨w,g⟩:∃w,a[n]? =some w:=⟨_,Zf (by omega)⟩;obtain⟨v,f⟩:∃v,b[n]? =some v:=⟨_,Zf (by omega)⟩;have z:=Uk (n:=n) (by omega);have B:val (a.take n)<4294967296^n:=by
   have:=WW (ws:=a.take n) (fun x m=>q x (YM m))
   rwa[ZO,Yt (by omega)]at this
  have C:val (b.take n)<4294967296^n:=by
   have:=WW (ws:=b.take n) (fun x m=>r x (YM m))
   rwa[ZO,Yt (by omega)]at this
  rw[Vl g,Vl f];by_cases e:w=v
  ·subst e;obtain⟨c,d,u,y⟩:=aG i j q r l A n k H (by omega) (by omega);refine⟨c,d,?_,y.imp (fun h=>⟨by omega,h.2⟩) fun h=>h.imp (fun h=>⟨by omega,h.2⟩) fun h=>⟨by omega,h.2⟩⟩;rw[Xb];simp only[Xm,Xq,reduceIte,Nat.reduceEqDiff,x188_1,pI,Zt,i.idx g,j.idx f,z];exact u
  ·by_cases o:w<v
   ·have:=Zp (4294967296^n) (show w+1<=v from o);rw[ZG,ZZ]at this;refine⟨.ret,?_⟩;apply VE
    ·rw[Xb];simp only[Xm,Xq,reduceIte,Nat.reduceEqDiff,x188_1,pI,Zt,i.idx g,j.idx f,e,o];rfl
    ·exact .inr (.inl ⟨by omega,rfl,by simp only[Xm,reduceIte,Nat.reduceEqDiff]⟩)
   ·have:=Zp (4294967296^n) (show v+1<=w by omega);rw[ZG,ZZ]at this;refine⟨.ret,?_⟩;apply VE
    ·rw[Xb];simp only[Xm,Xq,reduceIte,Nat.reduceEqDiff,x188_1,pI,Zt,i.idx g,j.idx f,e,o];rfl
    ·exact .inr (.inr ⟨by omega,rfl,by simp only[Xm,reduceIte]⟩)
def iF (m n:Nat):Int:=if m<n then .negSucc 0 else if n<m then .ofNat 1 else .ofNat 0
theorem dt {B:Xs}(s:Std B){o p:PL}{a b:List Nat}(f:Ui o a)(g:Ui p b)(j:Wz a)(m:Wz b)(r:Canon a)(l:Canon b)(t:a.length<1000000000000)(x:b.length<1000000000000):
  Xx B 188 [.one o,.one p] (.one (.int .i64 (iF (val a) (val b)))):=by
 refine Xx.of (s.Wa _ _ rfl) ((X1.ge (a.length+1)).mono fun E K w=> ?_);by_cases c:a.length=b.length
 ·obtain⟨v,u,k,d⟩:=aG (E:=E) (K:=K) f g j m c t a.length K [] (by omega) (Zh _);rw[Yv,c,Yv]at d;rw[c]at k;have i:=Uk (n:=b.length) (by omega);unfold iF;rcases d with⟨e,rfl⟩|⟨e,rfl,d⟩|⟨e,rfl,d⟩
  ·simp only[Xm,Xq,reduceIte,Nat.reduceEqDiff,Nat.reduceLeDiff,x188,f.len,g.len,c,i,k,e,Zx]
  ·simp only[Xm,Xq,reduceIte,Nat.reduceEqDiff,Nat.reduceLeDiff,x188,f.len,g.len,c,i,k,e,d]
  ·simp only[Xm,Xq,reduceIte,Nat.reduceEqDiff,Nat.reduceLeDiff,x188,f.len,g.len,c,i,k,e,d,Nat.lt_asymm e]
 ·have q:∀{a b:List Nat},Wz a->Canon b->a.length<b.length->val a<val b:=by
   intro a b j l h;have i:=Z2 (WW j) (Vj (Nat.le_of_lt_succ (by omega:a.length<b.length-1+1)));exact Z2 i (QF l (by omega))
  unfold iF;by_cases h:a.length<b.length
  ·have e:=q j l h;simp only[Xm,Xq,reduceIte,Nat.reduceEqDiff,Nat.reduceLeDiff,x188,f.len,g.len,c,h,e]
  ·have e:=q m r (by omega);simp only[Xm,Xq,reduceIte,Nat.reduceEqDiff,Nat.reduceLeDiff,x188,f.len,g.len,c,h,e,Nat.lt_asymm e]
theorem cq {E:Xa}{K:Nat}{J L:PL}{a b:List Nat}(D:Ui J a)(B:Ui L b)(F:Wz a)(G:Wz b)(n:b.length<=a.length)(P:a.length<1000000000000)(t:Nat):
  ∀(d i k:Nat) (r:List Nat) (f:Nat),i+d=a.length->d<k->r.length=a.length->Wz r->f<2->(∀j,i<=j->j<a.length->r[j]? =some 0)->val r+val (b.take i)=val (a.take i)+f*4294967296^i->
  ∃e m g,Xb E K 0 [0,1,5,6,13,14] x180_1 k ⟨[(0,.one (.p J)),(1,.one (.p L)),(5,.one (.own 0 0 0 a.length)),(6,.one (.p (.int .u64 (.ofNat f)))),(13,.one (.p (.int .i64 (.ofNat a.length)))),(14,.one (.p (.int .i64 (.ofNat i))))],[⟨false,0,1,Wi r,false,t⟩]⟩=some (.exit 0,⟨e,[⟨false,0,1,Wi m,false,t⟩]⟩)/\
   Xh e 5=some (.one (.own 0 0 0 a.length))/\m.length=a.length/\Wz m/\val m+val b=val a+g*4294967296^a.length
 |_,_,0,_,_,_,h,_,_,_,_,_=>by omega
 |0,i,k+1,r,f,hi,_,h1,h2,h3,h4,h5=>by
  obtain rfl:i=a.length:=by omega
  rw[Yv,Zd n]at h5;have :∃e,Xb E K 0 [0,1,5,6,13,14] x180_1 (k+1) ⟨[(0,.one (.p J)),(1,.one (.p L)),(5,.one (.own 0 0 0 a.length)),(6,.one (.p (.int .u64 (.ofNat f)))),(13,.one (.p (.int .i64 (.ofNat a.length)))),(14,.one (.p (.int .i64 (.ofNat a.length))))],[⟨false,0,1,Wi r,false,t⟩]⟩=some (.exit 0,⟨e,[⟨false,0,1,Wi r,false,t⟩]⟩)/\
    Xh e 5=some (.one (.own 0 0 0 a.length)):=by
   apply VE
   ·rw[Xb];simp only[Xm,Xq,reduceIte,Nat.reduceEqDiff,x180_1,Zx];rfl
   ·simp only[Xm,reduceIte,Nat.reduceEqDiff]
  obtain⟨e,s,u⟩:=this;exact⟨e,r,f,s,u,h1,h2,h5⟩
 |d+1,i,k+1,r,f,hi,hk,h1,h2,h3,h4,h5=>by
  obtain⟨w,A⟩:∃w,a[i]? =some w:=⟨_,Zf (by omega)⟩;have z:i<a.length:=by omega
  have T:=F.get A;have C:=h4 i (Zh _) (by omega);have N:w%18446744073709551616=w:=Zg (by omega);have O:Xe .i64 (.ofNat (i+1))=.ofNat (i+1):=wrap_i64 (by omega);obtain⟨c,e1,Q⟩:∃c,Xe .u64 (.ofNat w-.ofNat f)=.ofNat c/\c=(w+(18446744073709551616-f))%18446744073709551616:=⟨_,Ot (by omega),rfl⟩;by_cases o:i<b.length
  ·obtain⟨v,I⟩:∃v,b[i]? =some v:=⟨_,Zf o⟩;have S:=G.get I;have R:v%18446744073709551616=v:=Zg (by omega);obtain⟨l,e2,U⟩:∃l,Xe .u64 (.ofNat c-.ofNat v)=.ofNat l/\l=(c+(18446744073709551616-v))%18446744073709551616:=⟨_,Ot (by omega),rfl⟩;have M:l%4294967296+f+v=w+4294967296*(l / 9223372036854775808):=by omega
   obtain⟨e,m,g,s,u⟩:=cq D B F G n P t d (i+1) k (r.set i (l%4294967296)) (l / 9223372036854775808) (by omega) (by omega) (by simpa using h1) (h2.set i (by omega)) (by omega)
    (fun j H q=>by rw[ZM (by omega)];exact h4 j (by omega) q) (by
     have e1:=Tm (w:=l%4294967296) C;rw[Vl A,Vl I,ZK];generalize l%4294967296=x at *;generalize l / 9223372036854775808=y at *;generalize 4294967296^i=p at *;clear Q U
     grind)
   refine⟨e,m,g,?_,u⟩;rw[Xb];simp only[Xm,Xq,reduceIte,Nat.reduceEqDiff,Nat.reduceLeDiff,x180_1,z,D.idx A,B.len,o,B.idx I,N,O,R,e1,e2,X2 C,WH];exact s
  ·have M:c%4294967296+f=w+4294967296*(c / 9223372036854775808):=by omega
   obtain⟨e,m,g,s,u⟩:=cq D B F G n P t d (i+1) k (r.set i (c%4294967296)) (c / 9223372036854775808) (by omega) (by omega) (by simpa using h1) (h2.set i (by omega)) (by omega)
    (fun j H q=>by rw[ZM (by omega)];exact h4 j (by omega) q) (by
     have e1:=Tm (w:=c%4294967296) C;rw[Vl A,Zd (show b.length<=i+1 by omega),ZK];rw[Zd (show b.length<=i by omega)]at h5;generalize c%4294967296=x at *;generalize c / 9223372036854775808=y at *;generalize 4294967296^i=p at *;clear Q
     grind)
   refine⟨e,m,g,?_,u⟩;rw[Xb];simp only[Xm,Xq,reduceIte,Nat.reduceEqDiff,Nat.reduceLeDiff,x180_1,z,D.idx A,B.len,o,N,O,e1,X2 C,WH];exact s
theorem gF {B:Xs}(d:Std B){n o:PL}{a b:List Nat}(p:Ui n a)(z:Ui o b)(i:Wz a)(q:Wz b)(e:b.length<=a.length)(v:a.length<1000000000000)(G:val b<=val a):
  Xx B 180 [.one n,.one o] (.one (.Xp (Ub (Xd (val a-val b))))):=by
 have x:=WW i;have m:=SJ d (ws:=dg a.length (val a-val b)) (by rw[X9];omega);rw[TJ (by omega)]at m;refine Xx.of (d.Wa _ _ rfl) (((X1.ge (a.length+1)).and (m.Xj.and d.Xj)).mono fun E K ⟨D,e1,w⟩=> ?_);obtain⟨A,y,c,t,u,k,l,C⟩:=cq (E:=E) (K:=K) p z i q e v 177 a.length 0 K (List.replicate a.length 0) 0 (by omega) (by omega) (by simp) (Wz.replicate _) (by decide)
  (fun j _ F=>by rw[Yd,if_pos (by omega)]) (by rw[VO];simp[val])
 have g:y=dg a.length (val a-val b):=by
  have:=WW l;rw[k]at this;have f:c=0:=by
   rcases Yh c with h|h
   ·exact h
   ·have:=Zp (4294967296^a.length) h;omega
  subst f;exact Tx l k (by omega)
 subst g;have r:4*a.length<=lim:=by unfold lim;omega
 have s:a.length<=9223372036854775807:=by omega
 simp only[Xm,Xq,reduceIte,Nat.reduceEqDiff,Nat.reduceLeDiff,x180,p.len,r,s,Zh,U0,t,u,U5 _ (Y0 (X9 a.length (val a-val b))),Vd,X9,VX,Uf,w,X5,e1]
theorem Tc {x y z u:Nat}(a:x<4294967296)(b:y<4294967296)(d:z<4294967296)(c:u<4294967296):x*y+z+u<18446744073709551616:=by
 have:=ZU (Nat.le_sub_one_of_lt a) (Nat.le_sub_one_of_lt b);omega
theorem tj {E:Xa}{K:Nat}{la m:PL}{b:List Nat}(P:Ui m b)(G:Wz b){e:Nat}(T:e+b.length<1000000000000)(t:Nat){i x:Nat}(q:i<e)(O:x<4294967296)(V:Nat):
  ∀(d j k:Nat) (r:List Nat) (c:Nat),j+d=b.length->d<k->r.length=e+b.length->Wz r->c<4294967296->(∀p,i+b.length<=p->p<e+b.length->r[p]? =some 0)->val r+c*4294967296^(i+j)+x*4294967296^(i+j)*val (b.drop j)=V->
  ∃a g f,Xb E K 0 [0,1,5,6,7,8,18,19,28,29] x181_1 k ⟨[(0,.one (.p la)),(1,.one (.p m)),(5,.one (.own 0 0 0 (e+b.length))),(6,.one (.p (.int .i64 (.ofNat i)))),(7,.one (.p (.int .u64 (.ofNat c)))),(8,.one (.p (.int .u64 (.ofNat x)))),(18,.one (.p (.int .i64 (.ofNat e)))),(19,.one (.p (.int .i64 (.ofNat i)))),(28,.one (.p (.int .i64 (.ofNat b.length)))),(29,.one (.p (.int .i64 (.ofNat j))))],[⟨false,0,1,Wi r,false,t⟩]⟩=some (.exit 2,⟨a,[⟨false,0,1,Wi g,false,t⟩]⟩)/\
   (Xh a 0=some (.one (.p la))/\Xh a 1=some (.one (.p m))/\Xh a 5=some (.one (.own 0 0 0 (e+b.length)))/\Xh a 6=some (.one (.p (.int .i64 (.ofNat i))))/\Xh a 7=some (.one (.p (.int .u64 (.ofNat f))))/\Xh a 18=some (.one (.p (.int .i64 (.ofNat e))))/\Xh a 19=some (.one (.p (.int .i64 (.ofNat i)))))/\
   g.length=e+b.length/\Wz g/\f<4294967296/\(∀p,i+b.length<=p->p<e+b.length->g[p]? =some 0)/\val g+f*4294967296^(i+b.length)=V
 |_,_,0,_,_,_,h,_,_,_,_,_=>by omega
 |0,j,k+1,r,c,hi,_,h1,h2,h3,h4,h5=>by
  obtain rfl:j=b.length:=by omega
  have :∃a,Xb E K 0 [0,1,5,6,7,8,18,19,28,29] x181_1 (k+1) ⟨[(0,.one (.p la)),(1,.one (.p m)),(5,.one (.own 0 0 0 (e+b.length))),(6,.one (.p (.int .i64 (.ofNat i)))),(7,.one (.p (.int .u64 (.ofNat c)))),(8,.one (.p (.int .u64 (.ofNat x)))),(18,.one (.p (.int .i64 (.ofNat e)))),(19,.one (.p (.int .i64 (.ofNat i)))),(28,.one (.p (.int .i64 (.ofNat b.length)))),(29,.one (.p (.int .i64 (.ofNat b.length))))],[⟨false,0,1,Wi r,false,t⟩]⟩=some (.exit 2,⟨a,[⟨false,0,1,Wi r,false,t⟩]⟩)/\
    (Xh a 0=some (.one (.p la))/\Xh a 1=some (.one (.p m))/\Xh a 5=some (.one (.own 0 0 0 (e+b.length)))/\Xh a 6=some (.one (.p (.int .i64 (.ofNat i))))/\Xh a 7=some (.one (.p (.int .u64 (.ofNat c))))/\Xh a 18=some (.one (.p (.int .i64 (.ofNat e))))/\Xh a 19=some (.one (.p (.int .i64 (.ofNat i))))):=by
   apply VE
   ·rw[Xb];simp only[Xm,Xq,reduceIte,Nat.reduceEqDiff,x181_1,Zx];rfl
   ·simp only[Xm,reduceIte,Nat.reduceEqDiff,and_self]
  obtain⟨a,n,o⟩:=this;refine⟨a,r,c,n,o,h1,h2,h3,h4,?_⟩;rw[List.drop_length]at h5;simpa[val]using h5
 |d+1,j,k+1,r,c,hi,hk,h1,h2,h3,h4,h5=>by
  have l:j<b.length:=by omega
  obtain⟨v,D⟩:∃v,b[j]? =some v:=⟨_,Zf l⟩;obtain⟨u,B⟩:∃u,r[i+j]? =some u:=⟨_,Zf (by omega)⟩;have F:=G.get D;have C:=h2.get B;have N:=Tc O F C h3;have H:v%18446744073709551616=v:=Zg (by omega);have I:u%18446744073709551616=u:=Zg (by omega);have J:(x*v)%18446744073709551616=x*v:=Zg (by omega);have L:(x*v+u)%18446744073709551616=x*v+u:=Zg (by omega);have M:(x*v+u+c)%18446744073709551616=x*v+u+c:=Zg N;have Q:Xe .i64 (.ofNat (i+j))=.ofNat (i+j):=wrap_i64 (by omega);have R:Xe .i64 (.ofNat (j+1))=.ofNat (j+1):=wrap_i64 (by omega);have S:i+j<e+b.length:=by omega
  obtain⟨a,g,f,n,o⟩:=tj (la:=la) P G T t q O V d (j+1) k (r.set (i+j) ((x*v+u+c)%4294967296)) ((x*v+u+c) / 4294967296) (by omega) (by omega) (by simpa using h1) (h2.set _ (by omega)) (by omega)
   (fun p s A=>by rw[ZM (by omega)];exact h4 p s A) (by
    have e1:=Tm (w:=(x*v+u+c)%4294967296) B;rw[Pz D]at h5;have e2:(x*v+u+c)%4294967296+4294967296*((x*v+u+c) / 4294967296)=x*v+u+c:=Nat.mod_add_div _ _;rw[show i+(j+1)=(i+j)+1 by omega,ZK];generalize (x*v+u+c)%4294967296=y at *;generalize (x*v+u+c) / 4294967296=z at *;generalize 4294967296^(i+j)=p at *;clear N J L M H I
    grind)
  refine⟨a,g,f,?_,o⟩;rw[Xb];simp only[Xm,Xq,reduceIte,Nat.reduceEqDiff,Nat.reduceLeDiff,x181_1,l,P.idx D,H,I,J,L,M,Q,R,S,X2 B,WH];exact n
theorem nF {E:Xa}{K:Nat}{la q:PL}{a b:List Nat}(F:Ui la a)(v:Ui q b)(z:Wz a)(A:Wz b)(C:a.length+b.length<1000000000000)(B:b.length<K)(t:Nat):
  ∀(d i k:Nat) (r:List Nat),i+d=a.length->d<k->r.length=a.length+b.length->Wz r->(∀p,i+b.length<=p->p<a.length+b.length->r[p]? =some 0)->val r=val (a.take i)*val b->
  ∃c f,Xb E K 0 [0,1,5,18,19] x181_2 k ⟨[(0,.one (.p la)),(1,.one (.p q)),(5,.one (.own 0 0 0 (a.length+b.length))),(18,.one (.p (.int .i64 (.ofNat a.length)))),(19,.one (.p (.int .i64 (.ofNat i))))],[⟨false,0,1,Wi r,false,t⟩]⟩=some (.exit 0,⟨c,[⟨false,0,1,Wi f,false,t⟩]⟩)/\
   Xh c 5=some (.one (.own 0 0 0 (a.length+b.length)))/\f.length=a.length+b.length/\Wz f/\val f=val a*val b
 |_,_,0,_,_,h,_,_,_,_=>by omega
 |0,i,k+1,r,hi,_,h1,h2,h3,h4=>by
  obtain rfl:i=a.length:=by omega
  rw[Yv]at h4;have :∃c,Xb E K 0 [0,1,5,18,19] x181_2 (k+1) ⟨[(0,.one (.p la)),(1,.one (.p q)),(5,.one (.own 0 0 0 (a.length+b.length))),(18,.one (.p (.int .i64 (.ofNat a.length)))),(19,.one (.p (.int .i64 (.ofNat a.length))))],[⟨false,0,1,Wi r,false,t⟩]⟩=some (.exit 0,⟨c,[⟨false,0,1,Wi r,false,t⟩]⟩)/\Xh c 5=some (.one (.own 0 0 0 (a.length+b.length))):=by
   apply VE
   ·rw[Xb];simp only[Xm,Xq,reduceIte,Nat.reduceEqDiff,x181_2,Zx];rfl
   ·simp only[Xm,reduceIte,Nat.reduceEqDiff]
  obtain⟨c,j,l⟩:=this;exact⟨c,r,j,l,h1,h2,h4⟩
 |d+1,i,k+1,r,hi,hk,h1,h2,h3,h4=>by
  have e:i<a.length:=by omega
  obtain⟨x,n⟩:∃x,a[i]? =some x:=⟨_,Zf e⟩;have o:=z.get n;obtain⟨X,W,y,M,⟨O,P,Q,R,S,T,U⟩,V,s,u,g,N⟩:=tj (E:=E) (K:=K) (la:=la) v A C t e o (val r+x*4294967296^i*val b) b.length 0 K r 0 (by omega) B h1 h2 (by decide) h3 (by simp);have D:=g (i+b.length) (Zh _) (by omega);obtain⟨c,f,j,l⟩:=nF F v z A C B t d (i+1) k (W.set (i+b.length) (y%4294967296)) (by omega) (by omega) (by simpa using V) (s.set _ (by omega))
   (fun p L m=>by rw[ZM (by omega)];exact g p (by omega) m) (by
    have e1:=Tm (w:=y%4294967296) D;rw[Zg u]at e1⊢;rw[Vl n,ZG,<-h4];have :x*4294967296^i*val b=x*4294967296^i*val b:=rfl;omega)
  refine⟨c,f,?_,l⟩;have G:x%18446744073709551616=x:=Zg (by omega);have H:Xe .i64 (.ofNat (i+1))=.ofNat (i+1):=wrap_i64 (by omega);have I:Xe .i64 (.ofNat (i+b.length))=.ofNat (i+b.length):=wrap_i64 (by omega);have J:i+b.length<a.length+b.length:=by omega
  rw[Xb];simp only[Xm,Xq,reduceIte,Nat.reduceEqDiff,Nat.reduceLeDiff,x181_2,e,F.idx n,v.len,G,H,I,J,M,O,P,Q,R,S,T,U,X2 D,WH];exact j
theorem yw {B:Xs}(c:Std B){i k:PL}{a b:List Nat}(l:Ui i a)(m:Ui k b)(f:Wz a)(g:Wz b)(v:a.length+b.length<1000000000000):
  Xx B 181 [.one i,.one k] (.one (.Xp (Ub (Xd (val a*val b))))):=by
 have d:=WW f;have e:=WW g;have h:=SJ c (ws:=dg (a.length+b.length) (val a*val b)) (by rw[X9];omega);rw[TJ (by rw[Y2];exact Nat.mul_lt_mul'' d e)]at h;refine Xx.of (c.Wa _ _ rfl) (((X1.ge (a.length+b.length+1)).and (h.Xj.and c.Xj)).mono fun E K ⟨y,e1,w⟩=> ?_);obtain⟨x,A,q,r,s,t,u⟩:=nF (E:=E) (K:=K) l m f g v (by omega) 177 a.length 0 K (List.replicate (a.length+b.length) 0) (by omega) (by omega) (by simp) (Wz.replicate _)
  (fun j _ z=>by rw[Yd,if_pos (by omega)]) (by rw[VO];simp[val])
 obtain rfl:=Tx t s u;have n:Xe .i64 (.ofNat (a.length+b.length))=.ofNat (a.length+b.length):=wrap_i64 (by omega);have o:4*(a.length+b.length)<=lim:=by unfold lim;omega
 have p:a.length+b.length<=9223372036854775807:=by omega
 simp only[Xm,Xq,reduceIte,Nat.reduceEqDiff,Nat.reduceLeDiff,x181,l.len,m.len,n,o,p,Zh,U0,q,r,U5 _ (Y0 (X9 (a.length+b.length) (val a*val b))),Vd,X9,VX,Uf,w,X5,e1]
theorem Vi {B:Xs}(e:Std B){l:PL}{a:List Nat}(neg:Bool)(s:Ui l a)(d:Wz a)(i:a.length<1000000000000):∃c,Xx B 172 [.one (.bool neg),.one l] (.agg c)/\Ta c (if neg then -(val a:Int)else val a):=by
 obtain⟨r,g,b⟩:=mO e s (by omega);rw[UH d rfl]at b;by_cases h0:val a=0
 ·refine⟨[.bool false,.XC],Xx.of (e.Wa _ _ rfl) ((g.Xj.and e.Xj).mono fun E K ⟨e1,f⟩=> ?_),.XC,?_,?_⟩
  ·rw[h0,WU]at b;simp only[Xm,Xq,reduceIte,Nat.reduceEqDiff,Nat.reduceLeDiff,x172,f,X5,e1,b.len]
  ·rw[h0];cases neg<;>rfl
  ·rw[h0];cases neg<;>simp only[Zz,if_false,if_true]<;>exact aV.zero
 ·have h:(Xd (val a)).length≠0:=by rw[Uu h0];simp
  refine⟨[.bool neg,r],Xx.of (e.Wa _ _ rfl) ((g.Xj.and e.Xj).mono fun E K ⟨e1,f⟩=> ?_),r,?_,?_⟩
  ·simp only[Xm,Xq,reduceIte,Nat.reduceEqDiff,Nat.reduceLeDiff,x172,f,X5,e1,b.len,h]
  ·cases neg
   ·simp only[Zz,if_false];rw[decide_eq_false (by omega)]
   ·simp only[if_true];rw[decide_eq_true (by omega)]
  ·have :(if neg then -(val a:Int)else val a).natAbs=val a:=by cases neg<;>simp
   rw[this];exact b
theorem OP {B:Xs}(f:Std B){l:PL}{b:List Nat}(s:Ui l b)(i:b.length<1000000000000):∃r,Xx B 173 [.one l] (.one r)/\Ui r b:=by
 have g:∀h,Wp h (.p l)=some (Wi b,[]):=fun h=>by rw[Sl.chunks s,sA]
 by_cases h0:b=[]
 ·subst h0;refine⟨.XC,Xx.of (f.Wa _ _ rfl) (X1.of fun K n=> ?_),.nil⟩;have d:∀e n a,WQ e 1 4 n (Wi []) a=some ⟨.one (.p .XC),[],[],a⟩:=fun _ _ _=>rfl
  simp only[Xm,Xq,reduceIte,Nat.reduceEqDiff,Nat.reduceLeDiff,x173,g,d];simp only[Wi,Xm];simp only[show∀e n a,WQ e 1 4 n [] a=some ⟨.one (.p .XC),[],[],a⟩from fun _ _ _=>rfl,Xm,reduceIte,Nat.reduceEqDiff]
 ·refine⟨.Xp (Ub b),Xx.of (f.Wa _ _ rfl) (X1.of fun K n=> ?_),.Xp⟩;have d:(Wi b).all (fun c=>decide (c.length=1))=true:=by
   have:=uA b;rw[ZW]at this⊢;intro x j;have:=this x j;rwa[ej]at this
  simp only[Xm,Xq,reduceIte,Nat.reduceEqDiff,Nat.reduceLeDiff,x173,g,d,wP h0 i,U5 b (Zh _),Vd,VX,Zh]
theorem aX {B:Xs}(a:Std B){m:Nat}(b:m<18446744073709551616):Xx B 177 [.one (.int .u64 (.ofNat m))] (.one (.Xp (Ub (Xd m)))):=by
 have c:Xx B 175 [.one (.Xp [[.int .u32 (.ofNat (m%4294967296))],[.int .u32 (.ofNat (m / 4294967296%4294967296))]])] (.one (.Xp (Ub (Xd m)))):=by
  have:=SJ a (ws:=[m%4294967296,m / 4294967296%4294967296]) (by simp);rw[UH (n:=m) (Wz.mk (by omega) (Wz.mk (by omega) Wz.nil)) (by simp only[val];omega)]at this;exact this
 refine Xx.of (a.Wa _ _ rfl) ((c.Xj.and a.Xj).mono fun E K ⟨e1,b⟩=> ?_);simp only[Xm,Xq,reduceIte,Nat.reduceEqDiff,Nat.reduceLeDiff,Nat.reduceLT,Nat.reduceAdd,x177,b,X5,e1]
theorem Dn {B:Xs}(b:Std B){m:Nat}(j:m<9223372036854775808):∃c,Xx B 155 [.one (.int .i64 (.ofNat m))] (.agg c)/\Ta c m:=by
 have g:=aX b (m:=m) (by omega);have a:(Xd m).length<1000000000000:=by
  rcases Yj (Xd m).length 3 with h|h
  ·omega
  ·have:=QF (W0 m) (by omega);rw[Xl]at this;have:=Zy (Vj (show 2<=(Xd m).length-1 by omega)) this;simp at this;omega
 obtain⟨c,i,d⟩:=Vi b false (l:=.Xp (Ub (Xd m))) .Xp (Xo m) a;rw[Xl]at d;refine⟨c,Xx.of (b.Wa _ _ rfl) ((g.Xj.and (i.Xj.and b.Xj)).mono fun E K ⟨e1,e2,e⟩=> ?_),by simpa using d⟩;obtain⟨l,rfl,-⟩:=d;have f:m%18446744073709551616=m:=Zg (by omega);simp only[Xm,Xq,reduceIte,Nat.reduceEqDiff,Nat.reduceLeDiff,Nat.reduceAdd,x155,f,Nat.not_lt_zero,e,X5,e1,e2]
theorem nc {B:Xs}(e:Std B){c:List PL}{z:Int}(f:Ta c z):Xx B 146 [.agg c] (.one (.int .i64 (kH z))):=by
 obtain⟨m,rfl,a⟩:=f;refine Xx.of (e.Wa _ _ rfl) (X1.of fun K n=> ?_);unfold kH;by_cases h0:z=0
 ·subst h0;have:=a.len;rw[show Int.natAbs 0=0 from rfl,WU]at this;simp only[Xm,Xq,reduceIte,Nat.reduceEqDiff,Nat.reduceLeDiff,Nat.reduceAdd,x146,this]
 ·have d:(Xd z.natAbs).length≠0:=by rw[Ne,WV];omega
  by_cases b:z<0
  ·simp only[Xm,Xq,reduceIte,Nat.reduceEqDiff,Nat.reduceLeDiff,Nat.reduceAdd,x146,a.len,d,h0,b]
  ·simp only[Xm,Xq,reduceIte,Nat.reduceEqDiff,Nat.reduceLeDiff,Nat.reduceAdd,x146,a.len,d,h0,b]
theorem Rq {B:Xs}(h:Std B){c:List PL}{z:Int}(i:Ta c z):Xx B 152 [.agg c] (.one (.bool (decide (z=1)))):=by
 obtain⟨m,rfl,d⟩:=i;refine Xx.of (h.Wa _ _ rfl) (X1.of fun K n=> ?_);by_cases b:z<0
 ·have :z≠1:=by omega
  simp only[Xm,Xq,reduceIte,Nat.reduceEqDiff,Nat.reduceLeDiff,Nat.reduceAdd,x152,b,this]
 ·by_cases a:(Xd z.natAbs).length=1
  ·obtain⟨e,f⟩:=Sb.1 a;have j:(Xd z.natAbs)[0]? =some z.natAbs:=by rw[Px e f];rfl
   have g:(z.natAbs=1)=(z=1):=by simp only[eq_iff_iff];omega
   simp only[Xm,Xq,reduceIte,Nat.reduceEqDiff,Nat.reduceLeDiff,Nat.reduceAdd,x152,b,d.len,a,d.idx j,g]
  ·have :z≠1:=by
    rintro rfl;exact a (by rw[Sb];decide)
   simp only[Xm,Xq,reduceIte,Nat.reduceEqDiff,Nat.reduceLeDiff,Nat.reduceAdd,x152,b,d.len,a,this]
theorem ox (m n:Nat):tQ (.ofNat 0) (iF m n)=decide (n<=m):=by
 unfold iF;by_cases h:m<n
 ·rw[if_pos h,decide_eq_false (by omega)];rfl
 ·rw[if_neg h,decide_eq_true (by omega)];split<;>rfl
theorem lz {B:Xs}(b:Std B){c:List PL}{z:Int}(j:Ta c z)(n:Sm z):∃a,Xx B 147 [.agg c] (.agg a)/\Ta a (-z):=by
 obtain⟨m,rfl,k⟩:=j;unfold Sm at n;obtain⟨r,f,g⟩:=OP b k (by omega);obtain⟨a,i,d⟩:=Vi b (!decide (z<0)) g (Xo _) (by omega);rw[Xl]at d;refine⟨a,Xx.of (b.Wa _ _ rfl) ((f.Xj.and (i.Xj.and b.Xj)).mono fun E K ⟨e1,e2,e⟩=> ?_),?_⟩
 ·obtain⟨l,rfl,-⟩:=d;simp(decide:=true)only[Xm,Xq,reduceIte,Nat.reduceAdd,x147,e,X5,e1,e2]
 ·have : -z=(if(!decide (z<0))=true then -(z.natAbs:Int)else z.natAbs):=by
   by_cases h:z<0
   ·simp[h];omega
   ·simp[h];omega
  rw[this];exact d
theorem BA {B:Xs}(b:Std B){c d:List PL}{x y:Int}(o:Ta c x)(p:Ta d y)(t:Sm x)(u:Sm y):∃e,Xx B 156 [.agg c,.agg d] (.agg e)/\Ta e (x*y):=by
 obtain⟨m,rfl,q⟩:=o;obtain⟨n,rfl,r⟩:=p;unfold Sm at t u;have i:=yw b q r (Xo _) (Xo _) (by omega);rw[Xl,Xl]at i;have a:(Xd (x.natAbs*y.natAbs)).length<1000000000000:=by
  have:=Uv x.natAbs y.natAbs;omega
 obtain⟨e,j,f⟩:=Vi b (decide (x<0)!=decide (y<0)) (l:=.Xp (Ub (Xd (x.natAbs*y.natAbs)))) .Xp (Xo _) a;rw[Xl]at f;refine⟨e,Xx.of (b.Wa _ _ rfl) ((i.Xj.and (j.Xj.and b.Xj)).mono fun E K ⟨e1,e2,g⟩=> ?_),?_⟩
 ·obtain⟨l,rfl,-⟩:=f;have s:((decide (x<0)==decide (y<0))!=true)=(decide (x<0)!=decide (y<0)):=by
   cases decide (x<0)<;>cases decide (y<0)<;>rfl
  simp(decide:=true)only[Xm,Xq,reduceIte,Nat.reduceAdd,x156,g,X5,e1,e2,s]
 ·have :x*y=(if(decide (x<0)!=decide (y<0))=true then -((x.natAbs*y.natAbs:Nat):Int)else((x.natAbs*y.natAbs:Nat):Int)):=by
   rw[Int.natCast_mul];by_cases h:x<0<;>by_cases k:y<0
   ·simp only[h,k,decide_true,bne_self_eq_false,Zz,if_false];rw[show(x.natAbs:Int)= -x by omega,show(y.natAbs:Int)= -y by omega];grind
   ·simp only[h,k,decide_true,decide_false,bne_iff_ne,ne_eq,Bool.true_eq_false,not_false_eq_true,if_true];rw[show(x.natAbs:Int)= -x by omega,show(y.natAbs:Int)=y by omega];grind
   ·simp only[h,k,decide_true,decide_false,bne_iff_ne,ne_eq,Zz,not_false_eq_true,if_true];rw[show(x.natAbs:Int)=x by omega,show(y.natAbs:Int)= -y by omega];grind
   ·simp only[h,k,decide_false,bne_self_eq_false,Zz,if_false];rw[show(x.natAbs:Int)=x by omega,show(y.natAbs:Int)=y by omega]
  rw[this];exact f
theorem Ch {B:Xs}(b:Std B){c d:List PL}{x y:Int}(v:Ta c x)(w:Ta d y)(z:Sm x)(A:Sm y):∃e,Xx B 182 [.agg c,.agg d] (.agg e)/\Ta e (x+y):=by
 obtain⟨m,rfl,r⟩:=v;obtain⟨n,rfl,s⟩:=w;unfold Sm at z A;by_cases p:decide (x<0)=decide (y<0)
 ·have j:=sH b r s (Xo _) (Xo _) (by omega) (by omega);rw[Xl,Xl]at j;have a:(Xd (x.natAbs+y.natAbs)).length<1000000000000:=by
   have:=Uw x.natAbs y.natAbs;omega
  obtain⟨e,o,f⟩:=Vi b (decide (x<0)) (l:=.Xp (Ub (Xd (x.natAbs+y.natAbs)))) .Xp (Xo _) a;rw[Xl]at f;refine⟨e,Xx.of (b.Wa _ _ rfl) ((j.Xj.and (o.Xj.and b.Xj)).mono fun E K ⟨e1,e2,g⟩=> ?_),?_⟩
  ·obtain⟨l,rfl,-⟩:=f;rw[<-p];have t:(decide (x<0)==decide (x<0))=true:=beq_self_eq_true _;simp(decide:=true)only[Xm,Xq,reduceIte,Nat.reduceAdd,x182,g,X5,e1,e2,t]
  ·have :x+y=(if decide (x<0)=true then -((x.natAbs+y.natAbs:Nat):Int)else((x.natAbs+y.natAbs:Nat):Int)):=by
    by_cases h:x<0
    ·have k:y<0:=by simpa[h]using p
     simp only[h,decide_true,if_true];omega
    ·have k:¬y<0:=by simpa[h]using p
     simp only[h,decide_false,Zz,if_false];omega
   rw[this];exact f
 ·have t:(decide (x<0)==decide (y<0))=false:=by simpa using p
  have h0:=dt b r s (Xo _) (Xo _) (W0 _) (W0 _) (by omega) (by omega);rw[Xl,Xl]at h0;have q:(x<0/\¬y<0)\/(¬x<0/\y<0):=by
   by_cases h:x<0<;>by_cases k:y<0<;>simp[h,k]at p⊢
  by_cases i:y.natAbs<=x.natAbs
  ·have j:=gF b r s (Xo _) (Xo _) (XM i) (by omega) (by rw[Xl,Xl];exact i);rw[Xl,Xl]at j;have a:(Xd (x.natAbs-y.natAbs)).length<1000000000000:=by
    have:=XM (Nat.sub_le x.natAbs y.natAbs);omega
   obtain⟨e,o,f⟩:=Vi b (decide (x<0)) (l:=.Xp (Ub (Xd (x.natAbs-y.natAbs)))) .Xp (Xo _) a;rw[Xl]at f;refine⟨e,Xx.of (b.Wa _ _ rfl) ((h0.Xj.and (j.Xj.and (o.Xj.and b.Xj))).mono fun E K ⟨u,e1,e2,g⟩=> ?_),?_⟩
   ·obtain⟨l,rfl,-⟩:=f;simp(decide:=true)only[Xm,Xq,reduceIte,Nat.reduceAdd,x182,g,X5,u,e1,e2,t,ox,i]
   ·have :x+y=(if decide (x<0)=true then -((x.natAbs-y.natAbs:Nat):Int)else((x.natAbs-y.natAbs:Nat):Int)):=by
     rcases q with⟨h,k⟩|⟨h,k⟩
     ·simp only[h,decide_true,if_true];omega
     ·simp only[h,decide_false,Zz,if_false];omega
    rw[this];exact f
  ·have j:=gF b s r (Xo _) (Xo _) (XM (by omega)) (by omega) (by rw[Xl,Xl];omega);rw[Xl,Xl]at j;have a:(Xd (y.natAbs-x.natAbs)).length<1000000000000:=by
    have:=XM (Nat.sub_le y.natAbs x.natAbs);omega
   obtain⟨e,o,f⟩:=Vi b (decide (y<0)) (l:=.Xp (Ub (Xd (y.natAbs-x.natAbs)))) .Xp (Xo _) a;rw[Xl]at f;refine⟨e,Xx.of (b.Wa _ _ rfl) ((h0.Xj.and (j.Xj.and (o.Xj.and b.Xj))).mono fun E K ⟨u,e1,e2,g⟩=> ?_),?_⟩
   ·obtain⟨l,rfl,-⟩:=f;simp(decide:=true)only[Xm,Xq,reduceIte,Nat.reduceAdd,x182,g,X5,u,e1,e2,t,ox,i]
   ·have :x+y=(if decide (y<0)=true then -((y.natAbs-x.natAbs:Nat):Int)else((y.natAbs-x.natAbs:Nat):Int)):=by
     rcases q with⟨h,k⟩|⟨h,k⟩
     ·simp only[k,decide_false,Zz,if_false];omega
     ·simp only[k,decide_true,if_true];omega
    rw[this];exact f
theorem SL {B:Xs}(b:Std B){c d:List PL}{x y:Int}(r:Ta c x)(s:Ta d y)(H:Sm x)(I:Sm y):∃e,Xx B 117 [.one (.Xp [c,d])] (.agg e)/\Ta e (x*y):=by
 obtain⟨u,q,v⟩:=Dn b (m:=1) (by decide);have p:=Rq b v;have o:=Rq b r;have h:=Rq b s;obtain⟨P,Q,F⟩:=v.len;obtain⟨L,M,A⟩:=r.len;obtain⟨N,O,C⟩:=s.len;subst F A C;rw[decide_eq_true (by rfl:((1:Nat):Int)=1)]at p;by_cases g:x=1
 ·rw[decide_eq_true g]at o;by_cases a:y=1
  ·rw[decide_eq_true a]at h;refine⟨_,Xx.of (b.Wa _ _ rfl) ((q.Xj.and (p.Xj.and (o.Xj.and (h.Xj.and (b.Xj.and (X1.ge 3)))))).mono fun E K ⟨e1,e2,i,j,n,t⟩=> ?_),by rw[g,a];exact v⟩;obtain⟨f,rfl⟩:∃f,K=f+3:=⟨K-3,by omega⟩;have k:Xe .i64 (.ofNat 1)=.ofNat 1:=rfl;have l:Xe .i64 (.ofNat 2)=.ofNat 2:=rfl;simp(decide:=true)only[Xm,Xq,reduceIte,Nat.reduceAdd,x117,x117_1,Xb,n,X5,e1,i,j,k,l]
  ·rw[decide_eq_false a]at h;refine⟨_,Xx.of (b.Wa _ _ rfl) ((q.Xj.and (p.Xj.and (o.Xj.and (h.Xj.and (b.Xj.and (X1.ge 3)))))).mono fun E K ⟨e1,e2,i,j,n,t⟩=> ?_),by rw[g,Int.one_mul];exact s⟩;obtain⟨f,rfl⟩:∃f,K=f+3:=⟨K-3,by omega⟩;have k:Xe .i64 (.ofNat 1)=.ofNat 1:=rfl;have l:Xe .i64 (.ofNat 2)=.ofNat 2:=rfl;simp(decide:=true)only[Xm,Xq,reduceIte,Nat.reduceAdd,x117,x117_1,Xb,n,X5,e1,e2,i,j,k,l]
 ·have J:=o;rw[decide_eq_false g]at o;by_cases a:y=1
  ·rw[decide_eq_true a]at h;refine⟨_,Xx.of (b.Wa _ _ rfl) ((q.Xj.and (p.Xj.and (o.Xj.and (h.Xj.and (b.Xj.and (X1.ge 3)))))).mono fun E K ⟨e1,e2,i,j,n,t⟩=> ?_),by rw[a,Int.mul_one];exact r⟩;obtain⟨f,rfl⟩:∃f,K=f+3:=⟨K-3,by omega⟩;have k:Xe .i64 (.ofNat 1)=.ofNat 1:=rfl;have l:Xe .i64 (.ofNat 2)=.ofNat 2:=rfl;simp(decide:=true)only[Xm,Xq,reduceIte,Nat.reduceAdd,x117,x117_1,Xb,n,X5,e1,e2,i,j,k,l]
  ·rw[decide_eq_false a]at h;obtain⟨e,G,w⟩:=BA b r s H I;obtain⟨e1,e2,D⟩:=w.len;subst D;refine⟨_,Xx.of (b.Wa _ _ rfl) ((q.Xj.and (p.Xj.and (o.Xj.and (h.Xj.and (G.Xj.and (b.Xj.and (X1.ge 3))))))).mono fun E K ⟨e1,e2,i,j,z,n,t⟩=> ?_),w⟩;obtain⟨f,rfl⟩:∃f,K=f+3:=⟨K-3,by omega⟩;have k:Xe .i64 (.ofNat 1)=.ofNat 1:=rfl;have l:Xe .i64 (.ofNat 2)=.ofNat 2:=rfl;simp(decide:=true)only[Xm,Xq,reduceIte,Nat.reduceAdd,x117,x117_1,Xb,n,X5,e1,e2,i,j,z,k,l]
def GA (c:List PL)(z:Int):Prop:=∃n m d e,c=[.bool n,m,.bool d,e]/\Ta [.bool n,m] z/\Ta [.bool d,e] 1
theorem rp {B:Xs}(a:Std B){c d:List PL}{x:Int}(h:Ta c x)(b:Ta d 1):Xx B 116 [.agg c,.agg d] (.agg (c++d)):=by
 have e:=Rq a b;obtain⟨j,k,f⟩:=h.len;obtain⟨l,m,g⟩:=b.len;subst f g;rw[decide_eq_true rfl]at e;refine Xx.of (a.Wa _ _ rfl) ((e.Xj.and a.Xj).mono fun E K ⟨e1,i⟩=> ?_);simp(decide:=true)only[Xm,Xq,reduceIte,Nat.reduceAdd,x116,i,X5,e1]
end Go.Proofs.YtidginchkjhobaaGreat
