/- Package integer: words. -/
import Derived.Test.YtefpgecinlekpaaGreatStd
namespace Go.Proofs.YtefpgecinlekpaaGreat
open Go.Ev Go.Num
theorem bh {E:Xb}{K:Nat}{l:PL}{a:List Nat}(s:V9 l a)(g:a.length<9223372036854775808):∀(n k:Nat) (H:List Xz),n<k->n<=a.length->
  ∃b,Xc E K 0 [0,3] x187_1 k ⟨[(0,.one (.p l)),(3,.one (.p (.int .i64 (.ofNat n))))],H⟩=some (.exit 0,⟨b,H⟩)/\Xh b 0=some (.one (.p l))/\Xh b 3=some (.one (.p (.int .i64 (.ofNat (W9 (a.take n)).length))))
 |_,0,_,h,_=>by omega
 |0,k+1,H,_,_=>by
  apply VM
  ·rw[Xc];simp only[Xp,Xq,reduceIte,Nat.reduceEqDiff,x187_1,Zv];rfl
  ·simp only[Xp,reduceIte,Nat.reduceEqDiff,W9,and_self]
 |n+1,k+1,H,hk,hn=>by
  obtain⟨w,c⟩:∃w,a[n]? =some w:=⟨_,Zg (by omega)⟩;have d:Xe .i64 (Int.ofNat (n+1)-Int.ofNat 1)=Int.ofNat n:=Wh (by omega) (by omega);rw[iR c,bg];by_cases h0:w=0
  ·subst h0;obtain⟨b,e,f⟩:=bh s g n k H (by omega) (by omega);refine⟨b,?_,f⟩;rw[Xc];simp only[Xp,Xq,reduceIte,Nat.reduceEqDiff,x187_1,YF,d,s.idx c];exact e
  ·apply VM
   ·rw[Xc];simp only[Xp,Xq,reduceIte,Nat.reduceEqDiff,x187_1,YF,d,s.idx c,h0];rfl
   ·simp only[Xp,reduceIte,Nat.reduceEqDiff,h0,Zl,ZQ,Yn (show n<=a.length by omega),and_self]
theorem SL {B:Xr}(g:Std B){ws:List Nat}(i:ws.length<9223372036854775808):Xs B 187 [.one (.Xv (Ug ws))] (.one (.Xv (Ug (W9 ws)))):=by
 have s:V9 (.Xv (Ug ws)) ws:=.Xv;refine Xs.of (g.X6 _ _ rfl) ((X0.ge (ws.length+1)).mono fun E K k=> ?_);obtain⟨j,d,e,b⟩:=bh (E:=E) (K:=K) s i ws.length K [] (by omega) (Zh _);rw[Ym]at b;have a:∀h,WH 1 h (.p (.Xv (Ug ws))) 0 (some (W9 ws).length)=some (.p (.Xv (Ug (W9 ws))),[]):=by
  intro h;obtain⟨r,a,c⟩:=s.upto (n:=(W9 ws).length) (NT ws);have:=a h;rw[<-dM]at c;rcases c with rfl|⟨-,rfl⟩
  ·exact this
  ·simp only[WH]at this;obtain⟨-,f⟩:=Xw this;simp at f
 simp only[Xp,Xq,reduceIte,Nat.reduceEqDiff,Nat.reduceLeDiff,x187,s.len,d,e,b,a]
theorem mE {B:Xr}(g:Std B){l:PL}{a:List Nat}(s:V9 l a)(h:a.length<9223372036854775808):∃r,Xs B 187 [.one l] (.one r)/\V9 r (W9 a):=by
 obtain⟨r,f,c⟩:=s.upto (n:=(W9 a).length) (NT a);rw[<-dM]at c;refine⟨r,Xs.of (g.X6 _ _ rfl) ((X0.ge (a.length+1)).mono fun E K j=> ?_),c⟩;obtain⟨i,d,e,b⟩:=bh (E:=E) (K:=K) s h a.length K [] (by omega) (Zh _);rw[Ym]at b;simp only[Xp,Xq,reduceIte,Nat.reduceEqDiff,Nat.reduceLeDiff,x187,s.len,d,e,b,f]
theorem eE {E:Xb}{K:Nat}{z I:PL}{a b:List Nat}(C:V9 z a)(A:V9 I b)(D:WB a)(F:WB b)(l:b.length<=a.length)(O:a.length<1000000000000)(t:Nat):
  ∀(d i k:Nat) (r:List Nat) (c:Nat),i+d=a.length->d<k->r.length=a.length+1->WB r->c<2->(∀j,i<=j->j<=a.length->r[j]? =some 0)->val r+c*4294967296^i=val (a.take i)+val (b.take i)->
  ∃e g f,Xc E K 0 [0,1,5,6,21,22] x184_1 k ⟨[(0,.one (.p z)),(1,.one (.p I)),(5,.one (.own 0 0 0 (a.length+1))),(6,.one (.p (.int .u64 (.ofNat c)))),(21,.one (.p (.int .i64 (.ofNat a.length)))),(22,.one (.p (.int .i64 (.ofNat i))))],[⟨false,0,1,Wm r,false,t⟩]⟩=some (.exit 0,⟨e,[⟨false,0,1,Wm g,false,t⟩]⟩)/\
   Xh e 0=some (.one (.p z))/\Xh e 5=some (.one (.own 0 0 0 (a.length+1)))/\Xh e 6=some (.one (.p (.int .u64 (.ofNat f))))/\g.length=a.length+1/\WB g/\f<2/\g[a.length]? =some 0/\val g+f*4294967296^a.length=val a+val b
 |_,_,0,_,_,_,h,_,_,_,_,_=>by omega
 |0,i,k+1,r,c,hi,_,h1,h2,h3,h4,h5=>by
  obtain rfl:i=a.length:=by omega
  rw[Ym,Zb l]at h5;have :∃e,Xc E K 0 [0,1,5,6,21,22] x184_1 (k+1) ⟨[(0,.one (.p z)),(1,.one (.p I)),(5,.one (.own 0 0 0 (a.length+1))),(6,.one (.p (.int .u64 (.ofNat c)))),(21,.one (.p (.int .i64 (.ofNat a.length)))),(22,.one (.p (.int .i64 (.ofNat a.length))))],[⟨false,0,1,Wm r,false,t⟩]⟩=some (.exit 0,⟨e,[⟨false,0,1,Wm r,false,t⟩]⟩)/\
    Xh e 0=some (.one (.p z))/\Xh e 5=some (.one (.own 0 0 0 (a.length+1)))/\Xh e 6=some (.one (.p (.int .u64 (.ofNat c)))):=by
   apply VM
   ·rw[Xc];simp only[Xp,Xq,reduceIte,Nat.reduceEqDiff,x184_1,Zv];rfl
   ·simp only[Xp,reduceIte,Nat.reduceEqDiff,and_self]
  obtain⟨e,o,q,R,S⟩:=this;exact⟨e,r,c,o,q,R,S,h1,h2,h3,h4 _ (Zh _) (Zh _),h5⟩
 |d+1,i,k+1,r,c,hi,hk,h1,h2,h3,h4,h5=>by
  obtain⟨w,u⟩:∃w,a[i]? =some w:=⟨_,Zg (by omega)⟩;have s:i<a.length:=by omega
  have U:=D.get u;have B:=h4 i (Zh _) (by omega);have J:w%18446744073709551616=w:=Zf (by omega);have L:(w+c)%18446744073709551616=w+c:=Zf (by omega);have M:Xe .i64 (.ofNat (i+1))=.ofNat (i+1):=wrap_i64 (by omega);have N:i<a.length+1:=by omega
  by_cases m:i<b.length
  ·obtain⟨v,H⟩:∃v,b[i]? =some v:=⟨_,Zg m⟩;have T:=F.get H;have P:v%18446744073709551616=v:=Zf (by omega);have Q:(w+c+v)%18446744073709551616=w+c+v:=Zf (by omega);obtain⟨e,g,f,o,q⟩:=eE C A D F l O t d (i+1) k (r.set i ((w+c+v)%4294967296)) ((w+c+v) / 4294967296) (by omega) (by omega) (by simpa using h1) (h2.set i (by omega)) (by omega)
    (fun j G n=>by rw[ZB (by omega)];exact h4 j (by omega) n) (by
     have e1:=Tl (w:=(w+c+v)%4294967296) B;rw[Vk u,Vk H];have e2:(w+c+v)%4294967296+4294967296*((w+c+v) / 4294967296)=w+c+v:=Nat.mod_add_div _ _;rw[ZJ];generalize (w+c+v)%4294967296=x at *;generalize (w+c+v) / 4294967296=y at *;generalize 4294967296^i=p at *
     grind)
   refine⟨e,g,f,?_,q⟩;rw[Xc];simp only[Xp,Xq,reduceIte,Nat.reduceEqDiff,Nat.reduceLeDiff,x184_1,s,C.idx u,A.len,m,A.idx H,J,L,M,N,P,Q,X5 B,WG];exact o
  ·obtain⟨e,g,f,o,q⟩:=eE C A D F l O t d (i+1) k (r.set i ((w+c)%4294967296)) ((w+c) / 4294967296) (by omega) (by omega) (by simpa using h1) (h2.set i (by omega)) (by omega)
    (fun j G n=>by rw[ZB (by omega)];exact h4 j (by omega) n) (by
     have e1:=Tl (w:=(w+c)%4294967296) B;rw[Vk u,Zb (show b.length<=i+1 by omega)];rw[Zb (show b.length<=i by omega)]at h5;have e2:(w+c)%4294967296+4294967296*((w+c) / 4294967296)=w+c:=Nat.mod_add_div _ _;rw[ZJ];generalize (w+c)%4294967296=x at *;generalize (w+c) / 4294967296=y at *;generalize 4294967296^i=p at *
     grind)
   refine⟨e,g,f,?_,q⟩;rw[Xc];simp only[Xp,Xq,reduceIte,Nat.reduceEqDiff,Nat.reduceLeDiff,x184_1,s,C.idx u,A.len,m,J,L,M,N,X5 B,WG];exact o
theorem U2 (a:List Nat){n:Nat}(h:a.length<=n):(Wm a).take n=Wm a:=Zb (by rw[Vb];exact h)
theorem sb {E:Xb}{K:Nat}{g i:PL}{a b:List Nat}(x:V9 g a)(y:V9 i b)(k:WB a)(l:WB b)(f:b.length<=a.length)(v:a.length<1000000000000)(t:Nat)(u:a.length<K):
  ∃d c e,Xc E K 0 [0,1,5,6,21,22] x184_1 K ⟨[(0,.one (.p g)),(1,.one (.p i)),(5,.one (.own 0 0 0 (a.length+1))),(6,.one (.p (.int .u64 (.ofNat 0)))),(21,.one (.p (.int .i64 (.ofNat a.length)))),(22,.one (.p (.int .i64 (.ofNat 0))))],[⟨false,0,1,Wm (List.replicate (a.length+1) 0),false,t⟩]⟩=some (.exit 0,⟨d,[⟨false,0,1,Wm e,false,t⟩]⟩)/\
   Xh d 0=some (.one (.p g))/\Xh d 5=some (.one (.own 0 0 0 (a.length+1)))/\Xh d 6=some (.one (.p (.int .u64 (.ofNat c))))/\e[a.length]? =some 0/\e.set a.length (c%4294967296)=dg (a.length+1) (val a+val b):=by
 obtain⟨d,e,c,m,n,o,q,r,s,z,h,A⟩:=eE (E:=E) (K:=K) x y k l f v t a.length 0 K (List.replicate (a.length+1) 0) 0 (by omega) u (by simp) (WB.replicate _) (by decide)
  (fun j _ B=>by rw[Yp,if_pos (by omega)]) (by rw[VV];simp[val])
 refine⟨d,c,e,m,n,o,q,h,Tu (s.set _ (by omega)) (by simpa using r) ?_⟩;have:=Tl (w:=c%4294967296) h;rw[Zf (show c<4294967296 by omega)]at this⊢;omega
theorem r9 {B:Xr}(g:Std B){w lb:PL}{a b:List Nat}(i:V9 w a)(j:V9 lb b)(d:WB a)(e:WB b)(z:a.length<1000000000000)(A:b.length<1000000000000):
  Xs B 184 [.one w,.one lb] (.one (.Xv (Ug (Xd (val a+val b))))):=by
 have v:∀{a b:List Nat},WB a->WB b->b.length<=a.length->val a+val b<4294967296^(a.length+1):=by
  intro a b d e c;have f:=WN d;have D:=ZW (WN e) (Vj c);rw[ZJ];omega
 by_cases c:a.length<b.length
 ·have f:=SL g (ws:=dg (b.length+1) (val b+val a)) (by rw[Wd];omega);rw[TI (v e d (by omega)),YO (val b)]at f;refine Xs.of (g.X6 _ _ rfl) (((X0.ge (b.length+1)).and (f.Xi.and g.Xi)).mono fun E K ⟨y,e1,u⟩=> ?_);obtain⟨x,k,C,p,q,r,s,t,h⟩:=sb (E:=E) (K:=K) j i e d (by omega) A 161 (by omega);rw[YO (val b)]at h;have l:Xe .i64 (.ofNat (b.length+1))=.ofNat (b.length+1):=wrap_i64 (by omega);have m:4*(b.length+1)<=lim:=by unfold lim;omega
  have n:b.length+1<=9223372036854775807:=by omega
  have o:b.length<b.length+1:=by omega
  simp only[Xp,Xq,reduceIte,Nat.reduceEqDiff,Nat.reduceLeDiff,x184,i.len,j.len,c,l,m,n,o,Zh,UW,p,q,r,s,X5 t,WG,h,U2 _ (YN (Wd (b.length+1) (val a+val b))),Vb,Wd,V4,Ul,u,XW,e1]
 ·have f:=SL g (ws:=dg (a.length+1) (val a+val b)) (by rw[Wd];omega);rw[TI (v d e (by omega))]at f;refine Xs.of (g.X6 _ _ rfl) (((X0.ge (a.length+1)).and (f.Xi.and g.Xi)).mono fun E K ⟨y,e1,u⟩=> ?_);obtain⟨x,k,C,p,q,r,s,t,h⟩:=sb (E:=E) (K:=K) i j d e (by omega) z 161 (by omega);have l:Xe .i64 (.ofNat (a.length+1))=.ofNat (a.length+1):=wrap_i64 (by omega);have m:4*(a.length+1)<=lim:=by unfold lim;omega
  have n:a.length+1<=9223372036854775807:=by omega
  have o:a.length<a.length+1:=by omega
  simp only[Xp,Xq,reduceIte,Nat.reduceEqDiff,Nat.reduceLeDiff,x184,i.len,j.len,c,l,m,n,o,Zh,UW,p,q,r,s,X5 t,WG,h,U2 _ (YN (Wd (a.length+1) (val a+val b))),Vb,Wd,V4,Ul,u,XW,e1]
theorem aO {E:Xb}{K:Nat}{s t:PL}{a b:List Nat}(i:V9 s a)(j:V9 t b)(q:WB a)(r:WB b)(l:a.length=b.length)(A:a.length<1000000000000):∀(n k:Nat) (H:List Xz),n<k->n<=a.length->
  ∃c d,Xc E K 0 [0,1,5] x158_1 k ⟨[(0,.one (.p s)),(1,.one (.p t)),(5,.one (.p (.int .i64 (pI n))))],H⟩=some (c,⟨d,H⟩)/\
   ((val (a.take n)=val (b.take n)/\c=.exit 0)\/(val (a.take n)<val (b.take n)/\c=.ret/\Xh d 4=some (.one (.p (.int .i64 (.negSucc 0)))))\/(val (b.take n)<val (a.take n)/\c=.ret/\Xh d 4=some (.one (.p (.int .i64 (.ofNat 1))))))
 |_,0,_,h,_=>by omega
 |0,k+1,H,_,_=>by
  refine⟨.exit 0,?_⟩;apply VM
  ·rw[Xc];simp only[Xp,Xq,reduceIte,Nat.reduceEqDiff,x158_1,pI];rfl
  ·exact .inl ⟨rfl,rfl⟩
 |n+1,k+1,H,hk,hn=>by
  obtain⟨w,g⟩:∃w,a[n]? =some w:=⟨_,Zg (by omega)⟩;obtain⟨v,f⟩:∃v,b[n]? =some v:=⟨_,Zg (by omega)⟩;have z:=Uo (n:=n) (by omega);have B:val (a.take n)<4294967296^n:=by
   have:=WN (ws:=a.take n) (fun x m=>q x (YK m))
   rwa[ZQ,Yn (by omega)]at this
  have C:val (b.take n)<4294967296^n:=by
   have:=WN (ws:=b.take n) (fun x m=>r x (YK m))
   rwa[ZQ,Yn (by omega)]at this
  rw[Vk g,Vk f];by_cases e:w=v
  ·subst e;obtain⟨c,d,u,y⟩:=aO i j q r l A n k H (by omega) (by omega);refine⟨c,d,?_,y.imp (fun h=>⟨by omega,h.2⟩) fun h=>h.imp (fun h=>⟨by omega,h.2⟩) fun h=>⟨by omega,h.2⟩⟩;rw[Xc];simp only[Xp,Xq,reduceIte,Nat.reduceEqDiff,x158_1,pI,Zs,i.idx g,j.idx f,z];exact u
  ·by_cases o:w<v
   ·have:=Zo (4294967296^n) (show w+1<=v from o);rw[ZE,Z0]at this;refine⟨.ret,?_⟩;apply VM
    ·rw[Xc];simp only[Xp,Xq,reduceIte,Nat.reduceEqDiff,x158_1,pI,Zs,i.idx g,j.idx f,e,o];rfl
    ·exact .inr (.inl ⟨by omega,rfl,by simp only[Xp,reduceIte,Nat.reduceEqDiff]⟩)
   ·have:=Zo (4294967296^n) (show v+1<=w by omega);rw[ZE,Z0]at this;refine⟨.ret,?_⟩;apply VM
    ·rw[Xc];simp only[Xp,Xq,reduceIte,Nat.reduceEqDiff,x158_1,pI,Zs,i.idx g,j.idx f,e,o];rfl
    ·exact .inr (.inr ⟨by omega,rfl,by simp only[Xp,reduceIte]⟩)
def dH (m n:Nat):Int:=if m<n then .negSucc 0 else if n<m then .ofNat 1 else .ofNat 0
theorem Qe {B:Xr}(s:Std B){o p:PL}{a b:List Nat}(f:V9 o a)(g:V9 p b)(j:WB a)(m:WB b)(r:Canon a)(l:Canon b)(t:a.length<1000000000000)(x:b.length<1000000000000):
  Xs B 158 [.one o,.one p] (.one (.int .i64 (dH (val a) (val b)))):=by
 refine Xs.of (s.X6 _ _ rfl) ((X0.ge (a.length+1)).mono fun E K w=> ?_);by_cases c:a.length=b.length
 ·obtain⟨v,u,k,d⟩:=aO (E:=E) (K:=K) f g j m c t a.length K [] (by omega) (Zh _);rw[Ym,c,Ym]at d;rw[c]at k;have i:=Uo (n:=b.length) (by omega);unfold dH;rcases d with⟨e,rfl⟩|⟨e,rfl,d⟩|⟨e,rfl,d⟩
  ·simp only[Xp,Xq,reduceIte,Nat.reduceEqDiff,Nat.reduceLeDiff,x158,f.len,g.len,c,i,k,e,Zv]
  ·simp only[Xp,Xq,reduceIte,Nat.reduceEqDiff,Nat.reduceLeDiff,x158,f.len,g.len,c,i,k,e,d]
  ·simp only[Xp,Xq,reduceIte,Nat.reduceEqDiff,Nat.reduceLeDiff,x158,f.len,g.len,c,i,k,e,d,Nat.lt_asymm e]
 ·have q:∀{a b:List Nat},WB a->Canon b->a.length<b.length->val a<val b:=by
   intro a b j l h;have i:=ZW (WN j) (Vj (Nat.le_of_lt_succ (by omega:a.length<b.length-1+1)));exact ZW i (QV l (by omega))
  unfold dH;by_cases h:a.length<b.length
  ·have e:=q j l h;simp only[Xp,Xq,reduceIte,Nat.reduceEqDiff,Nat.reduceLeDiff,x158,f.len,g.len,c,h,e]
  ·have e:=q m r (by omega);simp only[Xp,Xq,reduceIte,Nat.reduceEqDiff,Nat.reduceLeDiff,x158,f.len,g.len,c,h,e,Nat.lt_asymm e]
theorem cj {E:Xb}{K:Nat}{J L:PL}{a b:List Nat}(D:V9 J a)(B:V9 L b)(F:WB a)(G:WB b)(n:b.length<=a.length)(P:a.length<1000000000000)(t:Nat):
  ∀(d i k:Nat) (r:List Nat) (f:Nat),i+d=a.length->d<k->r.length=a.length->WB r->f<2->(∀j,i<=j->j<a.length->r[j]? =some 0)->val r+val (b.take i)=val (a.take i)+f*4294967296^i->
  ∃e m g,Xc E K 0 [0,1,5,6,13,14] x185_1 k ⟨[(0,.one (.p J)),(1,.one (.p L)),(5,.one (.own 0 0 0 a.length)),(6,.one (.p (.int .u64 (.ofNat f)))),(13,.one (.p (.int .i64 (.ofNat a.length)))),(14,.one (.p (.int .i64 (.ofNat i))))],[⟨false,0,1,Wm r,false,t⟩]⟩=some (.exit 0,⟨e,[⟨false,0,1,Wm m,false,t⟩]⟩)/\
   Xh e 5=some (.one (.own 0 0 0 a.length))/\m.length=a.length/\WB m/\val m+val b=val a+g*4294967296^a.length
 |_,_,0,_,_,_,h,_,_,_,_,_=>by omega
 |0,i,k+1,r,f,hi,_,h1,h2,h3,h4,h5=>by
  obtain rfl:i=a.length:=by omega
  rw[Ym,Zb n]at h5;have :∃e,Xc E K 0 [0,1,5,6,13,14] x185_1 (k+1) ⟨[(0,.one (.p J)),(1,.one (.p L)),(5,.one (.own 0 0 0 a.length)),(6,.one (.p (.int .u64 (.ofNat f)))),(13,.one (.p (.int .i64 (.ofNat a.length)))),(14,.one (.p (.int .i64 (.ofNat a.length))))],[⟨false,0,1,Wm r,false,t⟩]⟩=some (.exit 0,⟨e,[⟨false,0,1,Wm r,false,t⟩]⟩)/\
    Xh e 5=some (.one (.own 0 0 0 a.length)):=by
   apply VM
   ·rw[Xc];simp only[Xp,Xq,reduceIte,Nat.reduceEqDiff,x185_1,Zv];rfl
   ·simp only[Xp,reduceIte,Nat.reduceEqDiff]
  obtain⟨e,s,u⟩:=this;exact⟨e,r,f,s,u,h1,h2,h5⟩
 |d+1,i,k+1,r,f,hi,hk,h1,h2,h3,h4,h5=>by
  obtain⟨w,A⟩:∃w,a[i]? =some w:=⟨_,Zg (by omega)⟩;have z:i<a.length:=by omega
  have T:=F.get A;have C:=h4 i (Zh _) (by omega);have N:w%18446744073709551616=w:=Zf (by omega);have O:Xe .i64 (.ofNat (i+1))=.ofNat (i+1):=wrap_i64 (by omega);obtain⟨c,e1,Q⟩:∃c,Xe .u64 (.ofNat w-.ofNat f)=.ofNat c/\c=(w+(18446744073709551616-f))%18446744073709551616:=⟨_,OE (by omega),rfl⟩;by_cases o:i<b.length
  ·obtain⟨v,I⟩:∃v,b[i]? =some v:=⟨_,Zg o⟩;have S:=G.get I;have R:v%18446744073709551616=v:=Zf (by omega);obtain⟨l,e2,U⟩:∃l,Xe .u64 (.ofNat c-.ofNat v)=.ofNat l/\l=(c+(18446744073709551616-v))%18446744073709551616:=⟨_,OE (by omega),rfl⟩;have M:l%4294967296+f+v=w+4294967296*(l / 9223372036854775808):=by omega
   obtain⟨e,m,g,s,u⟩:=cj D B F G n P t d (i+1) k (r.set i (l%4294967296)) (l / 9223372036854775808) (by omega) (by omega) (by simpa using h1) (h2.set i (by omega)) (by omega)
    (fun j H q=>by rw[ZB (by omega)];exact h4 j (by omega) q) (by
     have e1:=Tl (w:=l%4294967296) C;rw[Vk A,Vk I,ZJ];generalize l%4294967296=x at *;generalize l / 9223372036854775808=y at *;generalize 4294967296^i=p at *;clear Q U
     grind)
   refine⟨e,m,g,?_,u⟩;rw[Xc];simp only[Xp,Xq,reduceIte,Nat.reduceEqDiff,Nat.reduceLeDiff,x185_1,z,D.idx A,B.len,o,B.idx I,N,O,R,e1,e2,X5 C,WG];exact s
  ·have M:c%4294967296+f=w+4294967296*(c / 9223372036854775808):=by omega
   obtain⟨e,m,g,s,u⟩:=cj D B F G n P t d (i+1) k (r.set i (c%4294967296)) (c / 9223372036854775808) (by omega) (by omega) (by simpa using h1) (h2.set i (by omega)) (by omega)
    (fun j H q=>by rw[ZB (by omega)];exact h4 j (by omega) q) (by
     have e1:=Tl (w:=c%4294967296) C;rw[Vk A,Zb (show b.length<=i+1 by omega),ZJ];rw[Zb (show b.length<=i by omega)]at h5;generalize c%4294967296=x at *;generalize c / 9223372036854775808=y at *;generalize 4294967296^i=p at *;clear Q
     grind)
   refine⟨e,m,g,?_,u⟩;rw[Xc];simp only[Xp,Xq,reduceIte,Nat.reduceEqDiff,Nat.reduceLeDiff,x185_1,z,D.idx A,B.len,o,N,O,e1,X5 C,WG];exact s
theorem gD {B:Xr}(d:Std B){n o:PL}{a b:List Nat}(p:V9 n a)(z:V9 o b)(i:WB a)(q:WB b)(e:b.length<=a.length)(v:a.length<1000000000000)(G:val b<=val a):
  Xs B 185 [.one n,.one o] (.one (.Xv (Ug (Xd (val a-val b))))):=by
 have x:=WN i;have m:=SL d (ws:=dg a.length (val a-val b)) (by rw[Wd];omega);rw[TI (by omega)]at m;refine Xs.of (d.X6 _ _ rfl) (((X0.ge (a.length+1)).and (m.Xi.and d.Xi)).mono fun E K ⟨D,e1,w⟩=> ?_);obtain⟨A,y,c,t,u,k,l,C⟩:=cj (E:=E) (K:=K) p z i q e v 161 a.length 0 K (List.replicate a.length 0) 0 (by omega) (by omega) (by simp) (WB.replicate _) (by decide)
  (fun j _ F=>by rw[Yp,if_pos (by omega)]) (by rw[VV];simp[val])
 have g:y=dg a.length (val a-val b):=by
  have:=WN l;rw[k]at this;have f:c=0:=by
   rcases Z8 c with h|h
   ·exact h
   ·have:=Zo (4294967296^a.length) h;omega
  subst f;exact Tu l k (by omega)
 subst g;have r:4*a.length<=lim:=by unfold lim;omega
 have s:a.length<=9223372036854775807:=by omega
 simp only[Xp,Xq,reduceIte,Nat.reduceEqDiff,Nat.reduceLeDiff,x185,p.len,r,s,Zh,UW,t,u,U2 _ (YN (Wd a.length (val a-val b))),Vb,Wd,V4,Ul,w,XW,e1]
theorem Tc {x y z u:Nat}(a:x<4294967296)(b:y<4294967296)(d:z<4294967296)(c:u<4294967296):x*y+z+u<18446744073709551616:=by
 have:=Ya (Nat.le_sub_one_of_lt a) (Nat.le_sub_one_of_lt b);omega
theorem sL {E:Xb}{K:Nat}{la m:PL}{b:List Nat}(P:V9 m b)(G:WB b){e:Nat}(T:e+b.length<1000000000000)(t:Nat){i x:Nat}(q:i<e)(O:x<4294967296)(V:Nat):
  ∀(d j k:Nat) (r:List Nat) (c:Nat),j+d=b.length->d<k->r.length=e+b.length->WB r->c<4294967296->(∀p,i+b.length<=p->p<e+b.length->r[p]? =some 0)->val r+c*4294967296^(i+j)+x*4294967296^(i+j)*val (b.drop j)=V->
  ∃a g f,Xc E K 0 [0,1,5,6,7,8,18,19,28,29] x191_1 k ⟨[(0,.one (.p la)),(1,.one (.p m)),(5,.one (.own 0 0 0 (e+b.length))),(6,.one (.p (.int .i64 (.ofNat i)))),(7,.one (.p (.int .u64 (.ofNat c)))),(8,.one (.p (.int .u64 (.ofNat x)))),(18,.one (.p (.int .i64 (.ofNat e)))),(19,.one (.p (.int .i64 (.ofNat i)))),(28,.one (.p (.int .i64 (.ofNat b.length)))),(29,.one (.p (.int .i64 (.ofNat j))))],[⟨false,0,1,Wm r,false,t⟩]⟩=some (.exit 2,⟨a,[⟨false,0,1,Wm g,false,t⟩]⟩)/\
   (Xh a 0=some (.one (.p la))/\Xh a 1=some (.one (.p m))/\Xh a 5=some (.one (.own 0 0 0 (e+b.length)))/\Xh a 6=some (.one (.p (.int .i64 (.ofNat i))))/\Xh a 7=some (.one (.p (.int .u64 (.ofNat f))))/\Xh a 18=some (.one (.p (.int .i64 (.ofNat e))))/\Xh a 19=some (.one (.p (.int .i64 (.ofNat i)))))/\
   g.length=e+b.length/\WB g/\f<4294967296/\(∀p,i+b.length<=p->p<e+b.length->g[p]? =some 0)/\val g+f*4294967296^(i+b.length)=V
 |_,_,0,_,_,_,h,_,_,_,_,_=>by omega
 |0,j,k+1,r,c,hi,_,h1,h2,h3,h4,h5=>by
  obtain rfl:j=b.length:=by omega
  have :∃a,Xc E K 0 [0,1,5,6,7,8,18,19,28,29] x191_1 (k+1) ⟨[(0,.one (.p la)),(1,.one (.p m)),(5,.one (.own 0 0 0 (e+b.length))),(6,.one (.p (.int .i64 (.ofNat i)))),(7,.one (.p (.int .u64 (.ofNat c)))),(8,.one (.p (.int .u64 (.ofNat x)))),(18,.one (.p (.int .i64 (.ofNat e)))),(19,.one (.p (.int .i64 (.ofNat i)))),(28,.one (.p (.int .i64 (.ofNat b.length)))),(29,.one (.p (.int .i64 (.ofNat b.length))))],[⟨false,0,1,Wm r,false,t⟩]⟩=some (.exit 2,⟨a,[⟨false,0,1,Wm r,false,t⟩]⟩)/\
    (Xh a 0=some (.one (.p la))/\Xh a 1=some (.one (.p m))/\Xh a 5=some (.one (.own 0 0 0 (e+b.length)))/\Xh a 6=some (.one (.p (.int .i64 (.ofNat i))))/\Xh a 7=some (.one (.p (.int .u64 (.ofNat c))))/\Xh a 18=some (.one (.p (.int .i64 (.ofNat e))))/\Xh a 19=some (.one (.p (.int .i64 (.ofNat i))))):=by
   apply VM
   ·rw[Xc];simp only[Xp,Xq,reduceIte,Nat.reduceEqDiff,x191_1,Zv];rfl
   ·simp only[Xp,reduceIte,Nat.reduceEqDiff,and_self]
  obtain⟨a,n,o⟩:=this;refine⟨a,r,c,n,o,h1,h2,h3,h4,?_⟩;rw[List.drop_length]at h5;simpa[val]using h5
 |d+1,j,k+1,r,c,hi,hk,h1,h2,h3,h4,h5=>by
  have l:j<b.length:=by omega
  obtain⟨v,D⟩:∃v,b[j]? =some v:=⟨_,Zg l⟩;obtain⟨u,B⟩:∃u,r[i+j]? =some u:=⟨_,Zg (by omega)⟩;have F:=G.get D;have C:=h2.get B;have N:=Tc O F C h3;have H:v%18446744073709551616=v:=Zf (by omega);have I:u%18446744073709551616=u:=Zf (by omega);have J:(x*v)%18446744073709551616=x*v:=Zf (by omega);have L:(x*v+u)%18446744073709551616=x*v+u:=Zf (by omega);have M:(x*v+u+c)%18446744073709551616=x*v+u+c:=Zf N;have Q:Xe .i64 (.ofNat (i+j))=.ofNat (i+j):=wrap_i64 (by omega);have R:Xe .i64 (.ofNat (j+1))=.ofNat (j+1):=wrap_i64 (by omega);have S:i+j<e+b.length:=by omega
  obtain⟨a,g,f,n,o⟩:=sL (la:=la) P G T t q O V d (j+1) k (r.set (i+j) ((x*v+u+c)%4294967296)) ((x*v+u+c) / 4294967296) (by omega) (by omega) (by simpa using h1) (h2.set _ (by omega)) (by omega)
   (fun p s A=>by rw[ZB (by omega)];exact h4 p s A) (by
    have e1:=Tl (w:=(x*v+u+c)%4294967296) B;rw[PS D]at h5;have e2:(x*v+u+c)%4294967296+4294967296*((x*v+u+c) / 4294967296)=x*v+u+c:=Nat.mod_add_div _ _;rw[show i+(j+1)=(i+j)+1 by omega,ZJ];generalize (x*v+u+c)%4294967296=y at *;generalize (x*v+u+c) / 4294967296=z at *;generalize 4294967296^(i+j)=p at *;clear N J L M H I
    grind)
  refine⟨a,g,f,?_,o⟩;rw[Xc];simp only[Xp,Xq,reduceIte,Nat.reduceEqDiff,Nat.reduceLeDiff,x191_1,l,P.idx D,H,I,J,L,M,Q,R,S,X5 B,WG];exact n
theorem nC {E:Xb}{K:Nat}{la q:PL}{a b:List Nat}(F:V9 la a)(v:V9 q b)(z:WB a)(A:WB b)(C:a.length+b.length<1000000000000)(B:b.length<K)(t:Nat):
  ∀(d i k:Nat) (r:List Nat),i+d=a.length->d<k->r.length=a.length+b.length->WB r->(∀p,i+b.length<=p->p<a.length+b.length->r[p]? =some 0)->val r=val (a.take i)*val b->
  ∃c f,Xc E K 0 [0,1,5,18,19] x191_2 k ⟨[(0,.one (.p la)),(1,.one (.p q)),(5,.one (.own 0 0 0 (a.length+b.length))),(18,.one (.p (.int .i64 (.ofNat a.length)))),(19,.one (.p (.int .i64 (.ofNat i))))],[⟨false,0,1,Wm r,false,t⟩]⟩=some (.exit 0,⟨c,[⟨false,0,1,Wm f,false,t⟩]⟩)/\
   Xh c 5=some (.one (.own 0 0 0 (a.length+b.length)))/\f.length=a.length+b.length/\WB f/\val f=val a*val b
 |_,_,0,_,_,h,_,_,_,_=>by omega
 |0,i,k+1,r,hi,_,h1,h2,h3,h4=>by
  obtain rfl:i=a.length:=by omega
  rw[Ym]at h4;have :∃c,Xc E K 0 [0,1,5,18,19] x191_2 (k+1) ⟨[(0,.one (.p la)),(1,.one (.p q)),(5,.one (.own 0 0 0 (a.length+b.length))),(18,.one (.p (.int .i64 (.ofNat a.length)))),(19,.one (.p (.int .i64 (.ofNat a.length))))],[⟨false,0,1,Wm r,false,t⟩]⟩=some (.exit 0,⟨c,[⟨false,0,1,Wm r,false,t⟩]⟩)/\Xh c 5=some (.one (.own 0 0 0 (a.length+b.length))):=by
   apply VM
   ·rw[Xc];simp only[Xp,Xq,reduceIte,Nat.reduceEqDiff,x191_2,Zv];rfl
   ·simp only[Xp,reduceIte,Nat.reduceEqDiff]
  obtain⟨c,j,l⟩:=this;exact⟨c,r,j,l,h1,h2,h4⟩
 |d+1,i,k+1,r,hi,hk,h1,h2,h3,h4=>by
  have e:i<a.length:=by omega
  obtain⟨x,n⟩:∃x,a[i]? =some x:=⟨_,Zg e⟩;have o:=z.get n;obtain⟨X,W,y,M,⟨O,P,Q,R,S,T,U⟩,V,s,u,g,N⟩:=sL (E:=E) (K:=K) (la:=la) v A C t e o (val r+x*4294967296^i*val b) b.length 0 K r 0 (by omega) B h1 h2 (by decide) h3 (by simp);have D:=g (i+b.length) (Zh _) (by omega);obtain⟨c,f,j,l⟩:=nC F v z A C B t d (i+1) k (W.set (i+b.length) (y%4294967296)) (by omega) (by omega) (by simpa using V) (s.set _ (by omega))
   (fun p L m=>by rw[ZB (by omega)];exact g p (by omega) m) (by
    have e1:=Tl (w:=y%4294967296) D;rw[Zf u]at e1⊢;rw[Vk n,ZE,<-h4];have :x*4294967296^i*val b=x*4294967296^i*val b:=rfl;omega)
  refine⟨c,f,?_,l⟩;have G:x%18446744073709551616=x:=Zf (by omega);have H:Xe .i64 (.ofNat (i+1))=.ofNat (i+1):=wrap_i64 (by omega);have I:Xe .i64 (.ofNat (i+b.length))=.ofNat (i+b.length):=wrap_i64 (by omega);have J:i+b.length<a.length+b.length:=by omega
  rw[Xc];simp only[Xp,Xq,reduceIte,Nat.reduceEqDiff,Nat.reduceLeDiff,x191_2,e,F.idx n,v.len,G,H,I,J,M,O,P,Q,R,S,T,U,X5 D,WG];exact j
theorem yq {B:Xr}(c:Std B){i k:PL}{a b:List Nat}(l:V9 i a)(m:V9 k b)(f:WB a)(g:WB b)(v:a.length+b.length<1000000000000):
  Xs B 191 [.one i,.one k] (.one (.Xv (Ug (Xd (val a*val b))))):=by
 have d:=WN f;have e:=WN g;have h:=SL c (ws:=dg (a.length+b.length) (val a*val b)) (by rw[Wd];omega);rw[TI (by rw[Nat.pow_add];exact YY d e)]at h;refine Xs.of (c.X6 _ _ rfl) (((X0.ge (a.length+b.length+1)).and (h.Xi.and c.Xi)).mono fun E K ⟨y,e1,w⟩=> ?_);obtain⟨x,A,q,r,s,t,u⟩:=nC (E:=E) (K:=K) l m f g v (by omega) 161 a.length 0 K (List.replicate (a.length+b.length) 0) (by omega) (by omega) (by simp) (WB.replicate _)
  (fun j _ z=>by rw[Yp,if_pos (by omega)]) (by rw[VV];simp[val])
 obtain rfl:=Tu t s u;have n:Xe .i64 (.ofNat (a.length+b.length))=.ofNat (a.length+b.length):=wrap_i64 (by omega);have o:4*(a.length+b.length)<=lim:=by unfold lim;omega
 have p:a.length+b.length<=9223372036854775807:=by omega
 simp only[Xp,Xq,reduceIte,Nat.reduceEqDiff,Nat.reduceLeDiff,x191,l.len,m.len,n,o,p,Zh,UW,q,r,U2 _ (YN (Wd (a.length+b.length) (val a*val b))),Vb,Wd,V4,Ul,w,XW,e1]
theorem Vi {B:Xr}(e:Std B){l:PL}{a:List Nat}(neg:Bool)(s:V9 l a)(d:WB a)(i:a.length<1000000000000):∃c,Xs B 183 [.one (.bool neg),.one l] (.agg c)/\UB c (if neg then -(val a:Int)else val a):=by
 obtain⟨r,g,b⟩:=mE e s (by omega);rw[UG d rfl]at b;by_cases h0:val a=0
 ·refine⟨[.bool false,.XJ],Xs.of (e.X6 _ _ rfl) ((g.Xi.and e.Xi).mono fun E K ⟨e1,f⟩=> ?_),.XJ,?_,?_⟩
  ·rw[h0,WT]at b;simp only[Xp,Xq,reduceIte,Nat.reduceEqDiff,Nat.reduceLeDiff,x183,f,XW,e1,b.len]
  ·rw[h0];cases neg<;>rfl
  ·rw[h0];cases neg<;>simp only[Zz,if_false,if_true]<;>exact aY.zero
 ·have h:(Xd (val a)).length≠0:=by rw[Ut h0];simp
  refine⟨[.bool neg,r],Xs.of (e.X6 _ _ rfl) ((g.Xi.and e.Xi).mono fun E K ⟨e1,f⟩=> ?_),r,?_,?_⟩
  ·simp only[Xp,Xq,reduceIte,Nat.reduceEqDiff,Nat.reduceLeDiff,x183,f,XW,e1,b.len,h]
  ·cases neg
   ·simp only[Zz,if_false];rw[decide_eq_false (by omega)]
   ·simp only[if_true];rw[decide_eq_true (by omega)]
  ·have :(if neg then -(val a:Int)else val a).natAbs=val a:=by cases neg<;>simp
   rw[this];exact b
theorem O2 {B:Xr}(f:Std B){l:PL}{b:List Nat}(s:V9 l b)(i:b.length<1000000000000):∃r,Xs B 186 [.one l] (.one r)/\V9 r b:=by
 have g:∀h,Wt h (.p l)=some (Wm b,[]):=fun h=>by rw[Sl.chunks s,rY]
 by_cases h0:b=[]
 ·subst h0;refine⟨.XJ,Xs.of (f.X6 _ _ rfl) (X0.of fun K n=> ?_),.nil⟩;have d:∀e n a,WK e 1 4 n (Wm []) a=some ⟨.one (.p .XJ),[],[],a⟩:=fun _ _ _=>rfl
  simp only[Xp,Xq,reduceIte,Nat.reduceEqDiff,Nat.reduceLeDiff,x186,g,d];simp only[Wm,Xp];simp only[show∀e n a,WK e 1 4 n [] a=some ⟨.one (.p .XJ),[],[],a⟩from fun _ _ _=>rfl,Xp,reduceIte,Nat.reduceEqDiff]
 ·refine⟨.Xv (Ug b),Xs.of (f.X6 _ _ rfl) (X0.of fun K n=> ?_),.Xv⟩;have d:(Wm b).all (fun c=>decide (c.length=1))=true:=by
   have:=uh b;rw[ZP]at this⊢;intro x j;have:=this x j;rwa[ei]at this
  simp only[Xp,Xq,reduceIte,Nat.reduceEqDiff,Nat.reduceLeDiff,x186,g,d,wH h0 i,U2 b (Zh _),Vb,V4,Zh]
theorem ba {B:Xr}(a:Std B){m:Nat}(b:m<18446744073709551616):Xs B 189 [.one (.int .u64 (.ofNat m))] (.one (.Xv (Ug (Xd m)))):=by
 have c:Xs B 187 [.one (.Xv [[.int .u32 (.ofNat (m%4294967296))],[.int .u32 (.ofNat (m / 4294967296%4294967296))]])] (.one (.Xv (Ug (Xd m)))):=by
  have:=SL a (ws:=[m%4294967296,m / 4294967296%4294967296]) (by simp);rw[UG (n:=m) (WB.mk (by omega) (WB.mk (by omega) WB.nil)) (by simp only[val];omega)]at this;exact this
 refine Xs.of (a.X6 _ _ rfl) ((c.Xi.and a.Xi).mono fun E K ⟨e1,b⟩=> ?_);simp only[Xp,Xq,reduceIte,Nat.reduceEqDiff,Nat.reduceLeDiff,Nat.reduceLT,Nat.reduceAdd,x189,b,XW,e1]
theorem DB {B:Xr}(b:Std B){m:Nat}(j:m<9223372036854775808):∃c,Xs B 155 [.one (.int .i64 (.ofNat m))] (.agg c)/\UB c m:=by
 have g:=ba b (m:=m) (by omega);have a:(Xd m).length<1000000000000:=by
  rcases Yy (Xd m).length 3 with h|h
  ·omega
  ·have:=QV (Ws m) (by omega);rw[Xj]at this;have:=ZD (Vj (show 2<=(Xd m).length-1 by omega)) this;simp at this;omega
 obtain⟨c,i,d⟩:=Vi b false (l:=.Xv (Ug (Xd m))) .Xv (Xn m) a;rw[Xj]at d;refine⟨c,Xs.of (b.X6 _ _ rfl) ((g.Xi.and (i.Xi.and b.Xi)).mono fun E K ⟨e1,e2,e⟩=> ?_),by simpa using d⟩;obtain⟨l,rfl,-⟩:=d;have f:m%18446744073709551616=m:=Zf (by omega);simp only[Xp,Xq,reduceIte,Nat.reduceEqDiff,Nat.reduceLeDiff,Nat.reduceAdd,x155,f,Nat.not_lt_zero,e,XW,e1,e2]
theorem NY {B:Xr}(e:Std B){c:List PL}{z:Int}(f:UB c z):Xs B 157 [.agg c] (.one (.int .i64 (eT z))):=by
 obtain⟨m,rfl,a⟩:=f;refine Xs.of (e.X6 _ _ rfl) (X0.of fun K n=> ?_);unfold eT;by_cases h0:z=0
 ·subst h0;have:=a.len;rw[show Int.natAbs 0=0 from rfl,WT]at this;simp only[Xp,Xq,reduceIte,Nat.reduceEqDiff,Nat.reduceLeDiff,Nat.reduceAdd,x157,this]
 ·have d:(Xd z.natAbs).length≠0:=by rw[Ne,WU];omega
  by_cases b:z<0
  ·simp only[Xp,Xq,reduceIte,Nat.reduceEqDiff,Nat.reduceLeDiff,Nat.reduceAdd,x157,a.len,d,h0,b]
  ·simp only[Xp,Xq,reduceIte,Nat.reduceEqDiff,Nat.reduceLeDiff,Nat.reduceAdd,x157,a.len,d,h0,b]
theorem Ru {B:Xr}(h:Std B){c:List PL}{z:Int}(i:UB c z):Xs B 152 [.agg c] (.one (.bool (decide (z=1)))):=by
 obtain⟨m,rfl,d⟩:=i;refine Xs.of (h.X6 _ _ rfl) (X0.of fun K n=> ?_);by_cases b:z<0
 ·have :z≠1:=by omega
  simp only[Xp,Xq,reduceIte,Nat.reduceEqDiff,Nat.reduceLeDiff,Nat.reduceAdd,x152,b,this]
 ·by_cases a:(Xd z.natAbs).length=1
  ·obtain⟨e,f⟩:=Sf.1 a;have j:(Xd z.natAbs)[0]? =some z.natAbs:=by rw[RY e f];rfl
   have g:(z.natAbs=1)=(z=1):=by simp only[eq_iff_iff];omega
   simp only[Xp,Xq,reduceIte,Nat.reduceEqDiff,Nat.reduceLeDiff,Nat.reduceAdd,x152,b,d.len,a,d.idx j,g]
  ·have :z≠1:=by
    rintro rfl;exact a (by rw[Sf];decide)
   simp only[Xp,Xq,reduceIte,Nat.reduceEqDiff,Nat.reduceLeDiff,Nat.reduceAdd,x152,b,d.len,a,this]
theorem oi (m n:Nat):wQ (.ofNat 0) (dH m n)=decide (n<=m):=by
 unfold dH;by_cases h:m<n
 ·rw[if_pos h,decide_eq_false (by omega)];rfl
 ·rw[if_neg h,decide_eq_true (by omega)];split<;>rfl
theorem kV {B:Xr}(b:Std B){c:List PL}{z:Int}(j:UB c z)(n:Sm z):∃a,Xs B 159 [.agg c] (.agg a)/\UB a (-z):=by
 obtain⟨m,rfl,k⟩:=j;unfold Sm at n;obtain⟨r,f,g⟩:=O2 b k (by omega);obtain⟨a,i,d⟩:=Vi b (!decide (z<0)) g (Xn _) (by omega);rw[Xj]at d;refine⟨a,Xs.of (b.X6 _ _ rfl) ((f.Xi.and (i.Xi.and b.Xi)).mono fun E K ⟨e1,e2,e⟩=> ?_),?_⟩
 ·obtain⟨l,rfl,-⟩:=d;simp(decide:=true)only[Xp,Xq,reduceIte,Nat.reduceAdd,x159,e,XW,e1,e2]
 ·have : -z=(if(!decide (z<0))=true then -(z.natAbs:Int)else z.natAbs):=by
   by_cases h:z<0
   ·simp[h];omega
   ·simp[h];omega
  rw[this];exact d
theorem BF {B:Xr}(b:Std B){c d:List PL}{x y:Int}(o:UB c x)(p:UB d y)(t:Sm x)(u:Sm y):∃e,Xs B 156 [.agg c,.agg d] (.agg e)/\UB e (x*y):=by
 obtain⟨m,rfl,q⟩:=o;obtain⟨n,rfl,r⟩:=p;unfold Sm at t u;have i:=yq b q r (Xn _) (Xn _) (by omega);rw[Xj,Xj]at i;have a:(Xd (x.natAbs*y.natAbs)).length<1000000000000:=by
  have:=Vq x.natAbs y.natAbs;omega
 obtain⟨e,j,f⟩:=Vi b (decide (x<0)!=decide (y<0)) (l:=.Xv (Ug (Xd (x.natAbs*y.natAbs)))) .Xv (Xn _) a;rw[Xj]at f;refine⟨e,Xs.of (b.X6 _ _ rfl) ((i.Xi.and (j.Xi.and b.Xi)).mono fun E K ⟨e1,e2,g⟩=> ?_),?_⟩
 ·obtain⟨l,rfl,-⟩:=f;have s:((decide (x<0)==decide (y<0))!=true)=(decide (x<0)!=decide (y<0)):=by
   cases decide (x<0)<;>cases decide (y<0)<;>rfl
  simp(decide:=true)only[Xp,Xq,reduceIte,Nat.reduceAdd,x156,g,XW,e1,e2,s]
 ·have :x*y=(if(decide (x<0)!=decide (y<0))=true then -((x.natAbs*y.natAbs:Nat):Int)else((x.natAbs*y.natAbs:Nat):Int)):=by
   rw[Int.natCast_mul];by_cases h:x<0<;>by_cases k:y<0
   ·simp only[h,k,decide_true,bne_self_eq_false,Zz,if_false];rw[show(x.natAbs:Int)= -x by omega,show(y.natAbs:Int)= -y by omega];grind
   ·simp only[h,k,decide_true,decide_false,bne_iff_ne,ne_eq,Bool.true_eq_false,not_false_eq_true,if_true];rw[show(x.natAbs:Int)= -x by omega,show(y.natAbs:Int)=y by omega];grind
   ·simp only[h,k,decide_true,decide_false,bne_iff_ne,ne_eq,Zz,not_false_eq_true,if_true];rw[show(x.natAbs:Int)=x by omega,show(y.natAbs:Int)= -y by omega];grind
   ·simp only[h,k,decide_false,bne_self_eq_false,Zz,if_false];rw[show(x.natAbs:Int)=x by omega,show(y.natAbs:Int)=y by omega]
  rw[this];exact f
theorem uj {B:Xr}(b:Std B){c d:List PL}{x y:Int}(v:UB c x)(w:UB d y)(z:Sm x)(A:Sm y):∃e,Xs B 151 [.agg c,.agg d] (.agg e)/\UB e (x+y):=by
 obtain⟨m,rfl,r⟩:=v;obtain⟨n,rfl,s⟩:=w;unfold Sm at z A;by_cases p:decide (x<0)=decide (y<0)
 ·have j:=r9 b r s (Xn _) (Xn _) (by omega) (by omega);rw[Xj,Xj]at j;have a:(Xd (x.natAbs+y.natAbs)).length<1000000000000:=by
   have:=Uu x.natAbs y.natAbs;omega
  obtain⟨e,o,f⟩:=Vi b (decide (x<0)) (l:=.Xv (Ug (Xd (x.natAbs+y.natAbs)))) .Xv (Xn _) a;rw[Xj]at f;refine⟨e,Xs.of (b.X6 _ _ rfl) ((j.Xi.and (o.Xi.and b.Xi)).mono fun E K ⟨e1,e2,g⟩=> ?_),?_⟩
  ·obtain⟨l,rfl,-⟩:=f;rw[<-p];have t:(decide (x<0)==decide (x<0))=true:=beq_self_eq_true _;simp(decide:=true)only[Xp,Xq,reduceIte,Nat.reduceAdd,x151,g,XW,e1,e2,t]
  ·have :x+y=(if decide (x<0)=true then -((x.natAbs+y.natAbs:Nat):Int)else((x.natAbs+y.natAbs:Nat):Int)):=by
    by_cases h:x<0
    ·have k:y<0:=by simpa[h]using p
     simp only[h,decide_true,if_true];omega
    ·have k:¬y<0:=by simpa[h]using p
     simp only[h,decide_false,Zz,if_false];omega
   rw[this];exact f
 ·have t:(decide (x<0)==decide (y<0))=false:=by simpa using p
  have h0:=Qe b r s (Xn _) (Xn _) (Ws _) (Ws _) (by omega) (by omega);rw[Xj,Xj]at h0;have q:(x<0/\¬y<0)\/(¬x<0/\y<0):=by
   by_cases h:x<0<;>by_cases k:y<0<;>simp[h,k]at p⊢
  by_cases i:y.natAbs<=x.natAbs
  ·have j:=gD b r s (Xn _) (Xn _) (XM i) (by omega) (by rw[Xj,Xj];exact i);rw[Xj,Xj]at j;have a:(Xd (x.natAbs-y.natAbs)).length<1000000000000:=by
    have:=XM (Nat.sub_le x.natAbs y.natAbs);omega
   obtain⟨e,o,f⟩:=Vi b (decide (x<0)) (l:=.Xv (Ug (Xd (x.natAbs-y.natAbs)))) .Xv (Xn _) a;rw[Xj]at f;refine⟨e,Xs.of (b.X6 _ _ rfl) ((h0.Xi.and (j.Xi.and (o.Xi.and b.Xi))).mono fun E K ⟨u,e1,e2,g⟩=> ?_),?_⟩
   ·obtain⟨l,rfl,-⟩:=f;simp(decide:=true)only[Xp,Xq,reduceIte,Nat.reduceAdd,x151,g,XW,u,e1,e2,t,oi,i]
   ·have :x+y=(if decide (x<0)=true then -((x.natAbs-y.natAbs:Nat):Int)else((x.natAbs-y.natAbs:Nat):Int)):=by
     rcases q with⟨h,k⟩|⟨h,k⟩
     ·simp only[h,decide_true,if_true];omega
     ·simp only[h,decide_false,Zz,if_false];omega
    rw[this];exact f
  ·have j:=gD b s r (Xn _) (Xn _) (XM (by omega)) (by omega) (by rw[Xj,Xj];omega);rw[Xj,Xj]at j;have a:(Xd (y.natAbs-x.natAbs)).length<1000000000000:=by
    have:=XM (Nat.sub_le y.natAbs x.natAbs);omega
   obtain⟨e,o,f⟩:=Vi b (decide (y<0)) (l:=.Xv (Ug (Xd (y.natAbs-x.natAbs)))) .Xv (Xn _) a;rw[Xj]at f;refine⟨e,Xs.of (b.X6 _ _ rfl) ((h0.Xi.and (j.Xi.and (o.Xi.and b.Xi))).mono fun E K ⟨u,e1,e2,g⟩=> ?_),?_⟩
   ·obtain⟨l,rfl,-⟩:=f;simp(decide:=true)only[Xp,Xq,reduceIte,Nat.reduceAdd,x151,g,XW,u,e1,e2,t,oi,i]
   ·have :x+y=(if decide (y<0)=true then -((y.natAbs-x.natAbs:Nat):Int)else((y.natAbs-x.natAbs:Nat):Int)):=by
     rcases q with⟨h,k⟩|⟨h,k⟩
     ·simp only[k,decide_false,Zz,if_false];omega
     ·simp only[k,decide_true,if_true];omega
    rw[this];exact f
theorem WX {B:Xr}(b:Std B){c d:List PL}{x y:Int}(q:UB c x)(r:UB d y)(G:Sm x)(H:Sm y):∃e,Xs B 131 [.one (.Xv [c,d])] (.agg e)/\UB e (x*y):=by
 obtain⟨u,p,t⟩:=DB b (m:=1) (by decide);have o:=Ru b t;have n:=Ru b q;have h:=Ru b r;obtain⟨O,P,D⟩:=t.len;obtain⟨J,L,z⟩:=q.len;obtain⟨M,N,A⟩:=r.len;subst D z A;rw[decide_eq_true (by rfl:((1:Nat):Int)=1)]at o;by_cases g:x=1
 ·rw[decide_eq_true g]at n;by_cases a:y=1
  ·rw[decide_eq_true a]at h;refine⟨_,Xs.of (b.X6 _ _ rfl) ((p.Xi.and (o.Xi.and (n.Xi.and (h.Xi.and (b.Xi.and (X0.ge 3)))))).mono fun E K ⟨e1,e2,e3,i,l,s⟩=> ?_),by rw[g,a];exact t⟩;obtain⟨f,rfl⟩:∃f,K=f+3:=⟨K-3,by omega⟩;have j:Xe .i64 (.ofNat 1)=.ofNat 1:=rfl;have k:Xe .i64 (.ofNat 2)=.ofNat 2:=rfl;simp(decide:=true)only[Xp,Xq,reduceIte,Nat.reduceAdd,x131,x131_1,Xc,l,XW,e1,e3,i,j,k]
  ·rw[decide_eq_false a]at h;refine⟨_,Xs.of (b.X6 _ _ rfl) ((p.Xi.and (o.Xi.and (n.Xi.and (h.Xi.and (b.Xi.and (X0.ge 3)))))).mono fun E K ⟨e1,e2,e3,i,l,s⟩=> ?_),by rw[g,Int.one_mul];exact r⟩;obtain⟨f,rfl⟩:∃f,K=f+3:=⟨K-3,by omega⟩;have j:Xe .i64 (.ofNat 1)=.ofNat 1:=rfl;have k:Xe .i64 (.ofNat 2)=.ofNat 2:=rfl;simp(decide:=true)only[Xp,Xq,reduceIte,Nat.reduceAdd,x131,x131_1,Xc,l,XW,e1,e2,e3,i,j,k]
 ·have I:=n;rw[decide_eq_false g]at n;by_cases a:y=1
  ·rw[decide_eq_true a]at h;refine⟨_,Xs.of (b.X6 _ _ rfl) ((p.Xi.and (o.Xi.and (n.Xi.and (h.Xi.and (b.Xi.and (X0.ge 3)))))).mono fun E K ⟨e1,e2,e3,i,l,s⟩=> ?_),by rw[a,Int.mul_one];exact q⟩;obtain⟨f,rfl⟩:∃f,K=f+3:=⟨K-3,by omega⟩;have j:Xe .i64 (.ofNat 1)=.ofNat 1:=rfl;have k:Xe .i64 (.ofNat 2)=.ofNat 2:=rfl;simp(decide:=true)only[Xp,Xq,reduceIte,Nat.reduceAdd,x131,x131_1,Xc,l,XW,e1,e2,e3,i,j,k]
  ·rw[decide_eq_false a]at h;obtain⟨e,F,v⟩:=BF b q r G H;obtain⟨e1,e2,C⟩:=v.len;subst C;refine⟨_,Xs.of (b.X6 _ _ rfl) ((p.Xi.and (o.Xi.and (n.Xi.and (h.Xi.and (F.Xi.and (b.Xi.and (X0.ge 3))))))).mono fun E K ⟨e1,e2,e3,i,w,l,s⟩=> ?_),v⟩;obtain⟨f,rfl⟩:∃f,K=f+3:=⟨K-3,by omega⟩;have j:Xe .i64 (.ofNat 1)=.ofNat 1:=rfl;have k:Xe .i64 (.ofNat 2)=.ofNat 2:=rfl;simp(decide:=true)only[Xp,Xq,reduceIte,Nat.reduceAdd,x131,x131_1,Xc,l,XW,e1,e2,e3,i,w,j,k]
def Cu (c:List PL)(z:Int):Prop:=∃n m d e,c=[.bool n,m,.bool d,e]/\UB [.bool n,m] z/\UB [.bool d,e] 1
theorem Pm {B:Xr}(a:Std B){c d:List PL}{x:Int}(h:UB c x)(b:UB d 1):Xs B 130 [.agg c,.agg d] (.agg (c++d)):=by
 have e:=Ru a b;obtain⟨j,k,f⟩:=h.len;obtain⟨l,m,g⟩:=b.len;subst f g;rw[decide_eq_true rfl]at e;refine Xs.of (a.X6 _ _ rfl) ((e.Xi.and a.Xi).mono fun E K ⟨e1,i⟩=> ?_);simp(decide:=true)only[Xp,Xq,reduceIte,Nat.reduceAdd,x130,i,XW,e1]
theorem br:Sm 1:=by unfold Sm;rw[RY (by decide) (by decide)];simp
theorem yh {B:Xr}(a:Std B){c d:List PL}{x y:Int}(L:Cu c x)(M:Cu d y)(n:Sm x)(o:Sm y):∃e,Xs B 129 [.agg c,.agg d] (.agg e)/\Cu e (x+y):=by
 obtain⟨V,R,W,S,rfl,h,b⟩:=L;obtain⟨X,T,Y,U,rfl,i,f⟩:=M;obtain⟨p,F,j⟩:=WX a h f n br;obtain⟨q,G,k⟩:=WX a i b o br;obtain⟨r,H,g⟩:=WX a b f br br;rw[Int.mul_one]at j k g;obtain⟨s,I,l⟩:=uj a j k n o;have J:=Pm a l g;obtain⟨Z,O,z⟩:=j.len;obtain⟨q1,P,A⟩:=k.len;obtain⟨r1,Q,C⟩:=g.len;obtain⟨s1,s2,D⟩:=l.len;subst z A C D;refine⟨_,Xs.of (a.X6 _ _ rfl) ((F.Xi.and (G.Xi.and (H.Xi.and (I.Xi.and (J.Xi.and a.Xi))))).mono fun E K ⟨e1,e2,e3,w,m,N⟩=> ?_),⟨_,_,_,_,rfl,l,g⟩⟩;simp only[Xp]at m;cases t:O.scalar<;>cases u:P.scalar<;>cases v:Q.scalar<;>
  simp(decide:=true)only[Xp,Xq,reduceIte,Nat.reduceAdd,x129,N,XW,e1,e2,e3,w,m,t,u,v]
theorem yf {B:Xr}(a:Std B){c d:List PL}{x y:Int}(v:Cu c x)(w:Cu d y)(A:Sm x)(C:Sm y):∃e,Xs B 90 [.agg c,.agg d] (.agg e)/\Cu e (x*y):=by
 obtain⟨L,G,M,H,rfl,b,f⟩:=v;obtain⟨N,I,O,J,rfl,g,h⟩:=w;have r:=Pm a b h;have s:=Pm a g f;obtain⟨p,t,j⟩:=WX a b g A C;obtain⟨q,u,i⟩:=WX a h f br br;rw[Int.mul_one]at i;obtain⟨P,D,n⟩:=j.len;obtain⟨Q,F,o⟩:=i.len;subst n o;refine⟨_,Xs.of (a.X6 _ _ rfl) ((r.Xi.and (s.Xi.and (t.Xi.and (u.Xi.and a.Xi)))).mono fun E K ⟨e1,e2,e3,m,z⟩=> ?_),⟨_,_,_,_,rfl,j,i⟩⟩;simp only[Xp]at e1 e2;cases k:D.scalar<;>cases l:F.scalar<;>
  simp(decide:=true)only[Xp,Xq,reduceIte,Nat.reduceAdd,x90,z,XW,e1,e2,e3,m,k,l]
end Go.Proofs.YtefpgecinlekpaaGreat
