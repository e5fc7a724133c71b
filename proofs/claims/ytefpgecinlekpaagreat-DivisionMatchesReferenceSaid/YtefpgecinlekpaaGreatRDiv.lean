/- The reference's integers: the digit of a quotient, guessed (written by gen_rdiv1.py). -/
import Derived.Test.YtefpgecinlekpaaGreatDivB
set_option maxHeartbeats 16000000
set_option maxRecDepth 100000
namespace Go.Proofs.YtefpgecinlekpaaGreat
open Go.Ev Go.Num
theorem mB {r:Nat}(h:r<4294967296):r*4294967296%18446744073709551616=r*4294967296:=by omega
theorem EE {r u:Nat}(h:r<4294967296)(a:u<4294967296):(r*4294967296+u)%18446744073709551616=r*4294967296+u:=by omega
section
variable {E:Xb}{K:Nat}{H:List Xz}{lu lv:PL}{m k:Nat}{U V:List Nat}{v1 v2 u2 p q r:Nat}
theorem u6 (S:V9 lu U)(n:V9 lv V)(J:m<1000000000000)(f:V[m+1]? =some v1)(z:V[m]? =some v2)(A:U[m]? =some u2)(o:v1<4294967296)(q:v2<4294967296)(b:u2<4294967296)(a:r<4294967296)(L:p<=4294967298)(j:4294967296<=p+1)(i:¬4294967296<=r+v1):Xc E K 0 [0,1,5,7,8] x198_1 (k+1) ⟨[(0,.one (.p lu)),(1,.one (.p lv)),(5,.one (.p (.int .i64 (.ofNat (m+2))))),(7,.one (.p (.int .u64 (.ofNat (p+1))))),(8,.one (.p (.int .u64 (.ofNat r))))],H⟩=Xc E K 0 [0,1,5,7,8] x198_1 k ⟨[(0,.one (.p lu)),(1,.one (.p lv)),(5,.one (.p (.int .i64 (.ofNat (m+2))))),(7,.one (.p (.int .u64 (.ofNat p)))),(8,.one (.p (.int .u64 (.ofNat (r+v1)))))],H⟩:=by
 have Q:Xe .i64 (.ofNat (m+2)-.ofNat 2)=.ofNat m:=by rw[Wh (by omega) (by omega)];rfl
 have l:Xe .i64 (.ofNat (m+2)-.ofNat 1)=.ofNat (m+1):=by rw[Wh (by omega) (by omega)];rfl
 have c:v1%18446744073709551616=v1:=Zf (by omega);have v:v2%18446744073709551616=v2:=Zf (by omega);have w:u2%18446744073709551616=u2:=Zf (by omega);have e:(r+v1)%18446744073709551616=r+v1:=Zf (by omega);have x:r*4294967296%18446744073709551616=r*4294967296:=mB a;have y:(r*4294967296+u2)%18446744073709551616=r*4294967296+u2:=EE a b;have d:Xe .u64 (.ofNat (p+1)-.ofNat 1)=.ofNat p:=by rw[TK (by omega),wrap_u64,Yb,Zf (by omega)]
 obtain⟨s,M,N,P,O,u,t,B,g,C,D,F,G,I,h,R⟩:=T7;rw[<-g,h];simp only[Tj,R,Xq,reduceIte,Nat.reduceEqDiff,Nat.reduceAdd,x198_1,l,n.idx f,c,d,e,j,i]
theorem qw (T:V9 lu U)(o:V9 lv V)(L:m<1000000000000)(g:V[m+1]? =some v1)(A:V[m]? =some v2)(B:U[m]? =some u2)(q:v1<4294967296)(s:v2<4294967296)(c:u2<4294967296)(b:r<4294967296)(M:p<=4294967298)(l:4294967296<=p+1)(j:4294967296<=r+v1):∃a,Xc E K 0 [0,1,5,7,8] x198_1 (k+1) ⟨[(0,.one (.p lu)),(1,.one (.p lv)),(5,.one (.p (.int .i64 (.ofNat (m+2))))),(7,.one (.p (.int .u64 (.ofNat (p+1))))),(8,.one (.p (.int .u64 (.ofNat r))))],H⟩=some (.exit 0,⟨a,H⟩)/\Xh a 7=some (.one (.p (.int .u64 (.ofNat p)))):=by
 have S:Xe .i64 (.ofNat (m+2)-.ofNat 2)=.ofNat m:=by rw[Wh (by omega) (by omega)];rfl
 have n:Xe .i64 (.ofNat (m+2)-.ofNat 1)=.ofNat (m+1):=by rw[Wh (by omega) (by omega)];rfl
 have d:v1%18446744073709551616=v1:=Zf (by omega);have w:v2%18446744073709551616=v2:=Zf (by omega);have x:u2%18446744073709551616=u2:=Zf (by omega);have f:(r+v1)%18446744073709551616=r+v1:=Zf (by omega);have y:r*4294967296%18446744073709551616=r*4294967296:=mB b;have z:(r*4294967296+u2)%18446744073709551616=r*4294967296+u2:=EE b c;have e:Xe .u64 (.ofNat (p+1)-.ofNat 1)=.ofNat p:=by rw[TK (by omega),wrap_u64,Yb,Zf (by omega)]
 apply VM
 ·obtain⟨t,N,O,Q,P,v,u,C,h,D,F,G,I,J,i,R⟩:=T7;rw[<-h,i];simp only[Tj,R,Xq,reduceIte,Nat.reduceEqDiff,Nat.reduceAdd,x198_1,n,o.idx g,d,e,f,l,j];rfl
 ·simp only[Xp,reduceIte,Nat.reduceEqDiff]
theorem u5 (D:V9 lu U)(b:V9 lv V)(S:m<1000000000000)(o:V[m+1]? =some v1)(q:V[m]? =some v2)(s:U[m]? =some u2)(F:v1<4294967296)(c:v2<4294967296)(d:u2<4294967296)(a:r<4294967296)(y:¬4294967296<=p+1)(A:r*4294967296+u2<(p+1)*v2)(w:¬4294967296<=r+v1):Xc E K 0 [0,1,5,7,8] x198_1 (k+1) ⟨[(0,.one (.p lu)),(1,.one (.p lv)),(5,.one (.p (.int .i64 (.ofNat (m+2))))),(7,.one (.p (.int .u64 (.ofNat (p+1))))),(8,.one (.p (.int .u64 (.ofNat r))))],H⟩=Xc E K 0 [0,1,5,7,8] x198_1 k ⟨[(0,.one (.p lu)),(1,.one (.p lv)),(5,.one (.p (.int .i64 (.ofNat (m+2))))),(7,.one (.p (.int .u64 (.ofNat p)))),(8,.one (.p (.int .u64 (.ofNat (r+v1)))))],H⟩:=by
 have C:Xe .i64 (.ofNat (m+2)-.ofNat 2)=.ofNat m:=by rw[Wh (by omega) (by omega)];rfl
 have B:Xe .i64 (.ofNat (m+2)-.ofNat 1)=.ofNat (m+1):=by rw[Wh (by omega) (by omega)];rfl
 have e:v1%18446744073709551616=v1:=Zf (by omega);have f:v2%18446744073709551616=v2:=Zf (by omega);have g:u2%18446744073709551616=u2:=Zf (by omega);have i:(r+v1)%18446744073709551616=r+v1:=Zf (by omega);have l:r*4294967296%18446744073709551616=r*4294967296:=mB a;have n:(r*4294967296+u2)%18446744073709551616=r*4294967296+u2:=EE a d;have h:Xe .u64 (.ofNat (p+1)-.ofNat 1)=.ofNat p:=by rw[TK (by omega),wrap_u64,Yb,Zf (by omega)]
 have j:(p+1)*v2%18446744073709551616=(p+1)*v2:=by
  have:=Tc (x:=p+1) (by omega) c (z:=0) (u:=0) (by omega) (by omega);exact Zf (by omega)
 obtain⟨G,T,W,Y,X,J,I,L,t,M,N,O,P,Q,v,R⟩:=T7;rw[<-t,v];simp only[Tj,R,Xq,reduceIte,Nat.reduceEqDiff,Nat.reduceAdd,x198_1,B,C,b.idx o,b.idx q,D.idx s,e,f,g,h,i,j,l,n,y,A,w]
theorem qv (F:V9 lu U)(c:V9 lv V)(T:m<1000000000000)(q:V[m+1]? =some v1)(s:V[m]? =some v2)(t:U[m]? =some u2)(G:v1<4294967296)(d:v2<4294967296)(e:u2<4294967296)(b:r<4294967296)(A:¬4294967296<=p+1)(B:r*4294967296+u2<(p+1)*v2)(y:4294967296<=r+v1):∃a,Xc E K 0 [0,1,5,7,8] x198_1 (k+1) ⟨[(0,.one (.p lu)),(1,.one (.p lv)),(5,.one (.p (.int .i64 (.ofNat (m+2))))),(7,.one (.p (.int .u64 (.ofNat (p+1))))),(8,.one (.p (.int .u64 (.ofNat r))))],H⟩=some (.exit 0,⟨a,H⟩)/\Xh a 7=some (.one (.p (.int .u64 (.ofNat p)))):=by
 have D:Xe .i64 (.ofNat (m+2)-.ofNat 2)=.ofNat m:=by rw[Wh (by omega) (by omega)];rfl
 have C:Xe .i64 (.ofNat (m+2)-.ofNat 1)=.ofNat (m+1):=by rw[Wh (by omega) (by omega)];rfl
 have f:v1%18446744073709551616=v1:=Zf (by omega);have g:v2%18446744073709551616=v2:=Zf (by omega);have h:u2%18446744073709551616=u2:=Zf (by omega);have j:(r+v1)%18446744073709551616=r+v1:=Zf (by omega);have n:r*4294967296%18446744073709551616=r*4294967296:=mB b;have o:(r*4294967296+u2)%18446744073709551616=r*4294967296+u2:=EE b e;have i:Xe .u64 (.ofNat (p+1)-.ofNat 1)=.ofNat p:=by rw[TK (by omega),wrap_u64,Yb,Zf (by omega)]
 have l:(p+1)*v2%18446744073709551616=(p+1)*v2:=by
  have:=Tc (x:=p+1) (by omega) d (z:=0) (u:=0) (by omega) (by omega);exact Zf (by omega)
 apply VM
 ·obtain⟨I,W,X,Z,Y,L,J,M,v,N,O,P,Q,S,w,R⟩:=T7;rw[<-v,w];simp only[Tj,R,Xq,reduceIte,Nat.reduceEqDiff,Nat.reduceAdd,x198_1,C,D,c.idx q,c.idx s,F.idx t,f,g,h,i,j,l,n,o,A,B,y];rfl
 ·simp only[Xp,reduceIte,Nat.reduceEqDiff]
theorem xS (w:V9 lu U)(y:V9 lv V)(P:m<1000000000000)(G:V[m+1]? =some v1)(j:V[m]? =some v2)(l:U[m]? =some u2)(A:v1<4294967296)(c:v2<4294967296)(d:u2<4294967296)(b:r<4294967296)(s:¬4294967296<=q)(t:¬r*4294967296+u2<q*v2):∃a,Xc E K 0 [0,1,5,7,8] x198_1 (k+1) ⟨[(0,.one (.p lu)),(1,.one (.p lv)),(5,.one (.p (.int .i64 (.ofNat (m+2))))),(7,.one (.p (.int .u64 (.ofNat q)))),(8,.one (.p (.int .u64 (.ofNat r))))],H⟩=some (.exit 0,⟨a,H⟩)/\Xh a 7=some (.one (.p (.int .u64 (.ofNat q)))):=by
 have v:Xe .i64 (.ofNat (m+2)-.ofNat 2)=.ofNat m:=by rw[Wh (by omega) (by omega)];rfl
 have X:Xe .i64 (.ofNat (m+2)-.ofNat 1)=.ofNat (m+1):=by rw[Wh (by omega) (by omega)];rfl
 have F:v1%18446744073709551616=v1:=Zf (by omega);have e:v2%18446744073709551616=v2:=Zf (by omega);have f:u2%18446744073709551616=u2:=Zf (by omega);have h:r*4294967296%18446744073709551616=r*4294967296:=mB b;have i:(r*4294967296+u2)%18446744073709551616=r*4294967296+u2:=EE b d;have g:q*v2%18446744073709551616=q*v2:=by
  have:=Tc (x:=q) (by omega) c (z:=0) (u:=0) (by omega) (by omega);exact Zf (by omega)
 apply VM
 ·obtain⟨B,Q,S,W,T,D,C,I,n,J,L,M,N,O,o,R⟩:=T7;rw[<-n,o];simp only[Tj,R,Xq,reduceIte,Nat.reduceEqDiff,Nat.reduceAdd,x198_1,v,y.idx j,w.idx l,e,f,g,h,i,s,t];rfl
 ·simp only[Xp,reduceIte,Nat.reduceEqDiff]
theorem nc (z:V9 lu U)(A:V9 lv V)(x:m<1000000000000)(u:V[m+1]? =some v1)(v:V[m]? =some v2)(w:U[m]? =some u2)(o:v1<4294967296)(g:v2<4294967296)(s:u2<4294967296){a:Nat}(I:a<v1*4294967296+4294967296):∀(d q r:Nat),q*v1+r=a->r<4294967296->q<=4294967298->4294967296<=r+d*v1->(4294967296<=q+1\/a*4294967296+u2<(q+1)*(v1*4294967296+v2))->∀k,d<k->
  ∃b n,Xc E K 0 [0,1,5,7,8] x198_1 k ⟨[(0,.one (.p lu)),(1,.one (.p lv)),(5,.one (.p (.int .i64 (.ofNat (m+2))))),(7,.one (.p (.int .u64 (.ofNat q)))),(8,.one (.p (.int .u64 (.ofNat r))))],H⟩=some (.exit 0,⟨b,H⟩)/\Xh b 7=some (.one (.p (.int .u64 (.ofNat n))))/\pN v1 v2 a u2 n:=by
 intro d;induction d with
 |zero=>intro q r _ l _ D;omega
 |succ d J=>
  intro q r e l N D C k M;obtain⟨k,rfl⟩:∃L,k=L+1:=⟨k-1,by omega⟩;by_cases j:4294967296<=q
  ·obtain⟨p,rfl⟩:∃p,q=p+1:=⟨q-1,by omega⟩;have t:p*v1+(r+v1)=a:=by rw[Nat.succ_mul]at e;omega
   by_cases i:4294967296<=r+v1
   ·obtain⟨F,G⟩:=Qd (u2:=u2) t i g I;obtain⟨b,c,f⟩:=qw (E:=E) (K:=K) (k:=k) (H:=H) z A x u v w o g s l (by omega) j i;exact⟨b,p,c,f,F,G,.inl (by omega)⟩
   ·obtain⟨b,n,c,f⟩:=J p (r+v1) t (by omega) (by omega) (by rw[Nat.succ_mul]at D;omega) (.inl j) k (by omega);exact⟨b,n,by rw[u6 z A x u v w o g s l (by omega) j i];exact c,f⟩
  ·by_cases B:r*4294967296+u2<q*v2
   ·obtain⟨p,rfl⟩:∃p,q=p+1:=by
     rcases Z8 q with h|h
     ·subst h;omega
     ·exact⟨q-1,by omega⟩
    have t:p*v1+(r+v1)=a:=by rw[Nat.succ_mul]at e;omega
    have y:=fX e B;by_cases i:4294967296<=r+v1
    ·obtain⟨F,G⟩:=Qd (u2:=u2) t i g I;obtain⟨b,c,f⟩:=qv (E:=E) (K:=K) (k:=k) (H:=H) z A x u v w o g s l j B i;exact⟨b,p,c,f,F,G,.inr y⟩
    ·obtain⟨b,n,c,f⟩:=J p (r+v1) t (by omega) (by omega) (by rw[Nat.succ_mul]at D;omega) (.inr y) k (by omega);exact⟨b,n,by rw[u5 z A x u v w o g s l j B i];exact c,f⟩
   ·obtain⟨b,c,f⟩:=xS (E:=E) (K:=K) (k:=k) (H:=H) z A x u v w o g s l j B;refine⟨b,q,c,f,by omega,ND e (by omega),?_⟩;rcases C with C|C
    ·exact .inl (by omega)
    ·exact .inr C
end
theorem vS {B:Xr}(hB:Std B){lu lv:PL}{I J:List Nat}{m U V:Nat}(su:V9 lu I)(sv:V9 lv J)(a9:J.length=m+2)(hm:m<100000000000)(hN:pK V (m+2))(hU:U<V*4294967296)
  (hV:∀i,i<m+2->J[i]? =some (V / 4294967296^i%4294967296)) (hu:∀i,i<m+3->I[i]? =some (U / 4294967296^i%4294967296)):
  ∃q,Xs B 198 [.one lu,.one lv] (.one (.int .u64 (.ofNat q)))/\q<4294967296/\U / V<=q/\q<=U / V+1:=by
 have A:=hN.2;have N:U<4294967296^(m+3):=by
  have:=Yl A (show 0<4294967296 by decide);rw[<-ZJ]at this;exact YB hU this
 obtain⟨v1,f⟩:∃v1,v1=V / 4294967296^(m+1):=⟨_,rfl⟩;have a5:v1<4294967296:=by rw[f];exact Uw A
 obtain⟨v2,t⟩:∃v2,v2=V / 4294967296^m%4294967296:=⟨_,rfl⟩;have a8:v2<4294967296:=by rw[t];exact ZS _ (by decide)
 obtain⟨l,s⟩:∃l,l=U / 4294967296^(m+2):=⟨_,rfl⟩;have M:l<4294967296:=by rw[s];exact Uw N
 obtain⟨y,o⟩:∃y,y=U / 4294967296^(m+1)%4294967296:=⟨_,rfl⟩;have a0:y<4294967296:=by rw[o];exact ZS _ (by decide)
 obtain⟨u2,r⟩:∃u2,u2=U / 4294967296^m%4294967296:=⟨_,rfl⟩;have a4:u2<4294967296:=by rw[r];exact ZS _ (by decide)
 obtain⟨a,e⟩:∃a,a=l*4294967296+y:=⟨_,rfl⟩;have b:a=U / 4294967296^(m+1):=by rw[e,s,o];exact(OD U (m+1)).symm
 have g:=jA hN;have c:=wY (m:=m) hU;rw[<-f]at g c;rw[<-b]at c;have u:J[m+1]? =some v1:=by rw[hV (m+1) (by omega),f,Zf (Uw A)]
 have S:J[m]? =some v2:=by rw[hV m (by omega),t]
 have Q:I[m+2]? =some l:=by rw[hu (m+2) (by omega),s,Zf (Uw N)]
 have O:I[m+1]? =some y:=by rw[hu (m+1) (by omega),o]
 have P:I[m]? =some u2:=by rw[hu m (by omega),r]
 obtain⟨w,rfl⟩:∃w,v1=w+1:=⟨v1-1,by omega⟩;have C:=Yw a (w+1);have T:=ZS a (show 0<w+1 by omega);obtain⟨d,z⟩:∃d,d=a / (w+1):=⟨_,rfl⟩;obtain⟨Y,n⟩:∃Y,Y=a%(w+1):=⟨_,rfl⟩;rw[<-z,<-n]at C;rw[<-n]at T;have W:d<=4294967298:=by
  rcases Yy 4294967298 d with h|h
  ·exfalso;have:=YH (w+1) (show 4294967299<=d from h);omega
  ·exact h
 have k:a*4294967296+u2<(d+1)*((w+1)*4294967296+v2):=by
  rw[Nat.mul_add,<-Yr];have h1:a+1<=(d+1)*(w+1):=by rw[ZE,Z0,ZK d];omega
  have h2:=Zo 4294967296 h1;have h3:=Zs ((d+1)*v2);omega
 have X:∃q,q<4294967296/\U / V<=q/\q<=U / V+1/\∀(E:Xb) (K:Nat),3<=K->∃G,Xc E K 0 [0,1,5,7,8] x198_1 K ⟨[(0,.one (.p lu)),(1,.one (.p lv)),(5,.one (.p (.int .i64 (.ofNat (m+2))))),(7,.one (.p (.int .u64 (.ofNat d)))),(8,.one (.p (.int .u64 (.ofNat Y))))],[]⟩=some (.exit 0,⟨G,[]⟩)/\Xh G 7=some (.one (.p (.int .u64 (.ofNat q)))):=by
  have j:=fun(E:Xb) (K:Nat) (hK:3<=K)=>nc (E:=E) (K:=K) (H:=[]) su sv (by omega) u S P a5 a8 a4 c 2 d Y (by rw[ZK];exact C) (by omega) W (by omega) (.inr k) K (by omega)
  have Z:∀q x,pN (w+1) v2 a u2 q->pN (w+1) v2 a u2 x->q=x:=by
   intro q x ⟨a1,a2,a3⟩ ⟨b1,b2,L⟩;rcases Nat.lt_trichotomy q x with h|h|h
   ·exfalso;rcases a3 with a3|a3
    ·omega
    ·have:=Zo ((w+1)*4294967296+v2) (show q+1<=x from h);omega
   ·exact h
   ·exfalso;rcases L with L|L
    ·omega
    ·have:=Zo ((w+1)*4294967296+v2) (show x+1<=q from h);omega
  obtain⟨T0,q,-,-,a6⟩:=j (B.E 3 3) 3 (Zh _);have a7:=a6;rw[f,t,b,r]at a6;obtain⟨D,F⟩:=cX hN hU a6;refine⟨q,a7.1,D,F,fun E K hK=> ?_⟩;obtain⟨G,x,b1,b2,L⟩:=j E K hK;rw[Z q x a7 L];exact⟨G,b1,b2⟩
 obtain⟨q,hq,D,F,hl⟩:=X;refine⟨q,Xs.of (hB.X6 _ _ rfl) (((X0.ge 3).and hB.Xi).mono fun E K ⟨hK,b0⟩=> ?_),hq,D,F⟩;obtain⟨G,a1,a2⟩:=hl E K hK;have s1:Xe .i64 (.ofNat (m+2)-.ofNat 1)=.ofNat (m+1):=by rw[Wh (by omega) (by omega)];rfl
 have f1:l%18446744073709551616=l:=Zf (by omega);have f2:y%18446744073709551616=y:=Zf (by omega);have f3:(w+1)%18446744073709551616=w+1:=Zf (by omega);have f4:l*4294967296%18446744073709551616=l*4294967296:=mB M;have f5:(l*4294967296+y)%18446744073709551616=a:=by rw[e];exact EE M a0
 have o3:Tx .u64 (.ofNat a) (.ofNat (w+1))=some (.p (.int .u64 (.ofNat d))):=by
  show some (DL.p (.int .u64 (Xe .u64 (.ofNat (a / (w+1))))))=_;rw[<-z,wrap_u64,Zf (by omega)]
 have o4:U9 .u64 (.ofNat a) (.ofNat (w+1))=some (.p (.int .u64 (.ofNat Y))):=by rw[n];rfl
 have v:=sv.len;rw[a9]at v;clear k C c g e b f t s o r z n W hl;obtain⟨cE,lK,oD,oS,oR,dS,dD,h1,h2,h3,h4,h5,h6,h7,hL,R⟩:=T7;rw[<-h2]at a1;simp only[Tj,R,Xq,reduceIte,Nat.reduceEqDiff,Nat.reduceLeDiff,Nat.reduceAdd,x198,v,s1,su.idx Q,su.idx O,sv.idx u,f1,f2,f3,f4,f5,o3,o4,a1,a2]
end Go.Proofs.YtefpgecinlekpaaGreat
namespace Go.Num
theorem rN {q V c i a:Nat}(b:c=q*(V%4294967296^i) / 4294967296^i)(d:a=V / 4294967296^i%4294967296):(q*a+c) / 4294967296=q*(V%4294967296^(i+1)) / 4294967296^(i+1):=by
 rw[SN,<-d,Nat.mul_add,ZJ,<-YX,Nat.mul_left_comm,Nat.add_mul_div_left _ _ (Sn i),<-b,YO]
theorem lE (V i:Nat):(Xd V)[i]?.getD 0=V / 4294967296^i%4294967296:=by
 by_cases h:i<(Xd V).length
 ·have e:Xd V=dg (Xd V).length V:=Tu (Xn V) rfl (Xj V);rw[e,bS h];rfl
 ·have a:=Te V;have b:=Vj (show(Xd V).length<=i by omega);rw[Yv (by omega),YJ (ZW a b)];rfl
theorem yY {U V Y q c b n:Nat}(d:0<V)(k:V<4294967296^n)(o:q<4294967296)(m:U<4294967296^(n+1))(s:Y<4294967296^(n+1))(l:c=q*(V%4294967296^(n+1)) / 4294967296^(n+1))(h:Y+q*(V%4294967296^(n+1))=U%4294967296^(n+1)+(c+b)*4294967296^(n+1))(t:b<=1):
  (q=U / V->b=0/\Y=U%V)/\(q=U / V+1->b=1/\Y+V=U%V+4294967296^(n+1)):=by
 have f:V<4294967296^(n+1):=YB k (Nat.pow_lt_pow_right (by decide) (Nat.lt_succ_self n));rw[Zf f]at l h;rw[Zf m]at h;have i:q*V<4294967296^(n+1):=by rw[ZJ,ZK];exact YY k o
 have g:c=0:=by rw[l];exact YJ i
 rw[g,Z4]at h;have j:=Yw U V;have r:=ZS U d;rw[ZK]at j;constructor
 ·intro e;rw[<-e]at j;have a:b=0:=by
   rcases Yy b 1 with hb1|hb1
   ·omega
   ·have :b=1:=by omega
    rw[this,Z0]at h;exfalso;generalize q*V=w at *;generalize U%V=z at *;generalize 4294967296^(n+1)=p at *;omega
  rw[a,YS]at h;exact⟨a,by omega⟩
 ·intro e;rw[e,ZE,Z0]at h;have a:b=1:=by
   rcases Yy b 1 with hb1|hb1
   ·have :b=0:=by omega
    rw[this,YS]at h;exfalso;generalize U / V*V=w at *;generalize U%V=z at *;omega
   ·omega
  rw[a,Z0]at h;exact⟨a,by omega⟩
end Go.Num
namespace Go.Proofs.YtefpgecinlekpaaGreat
open Go.Ev Go.Num
section
variable {E:Xb}{K:Nat}{iu j n tu:Nat}{lv:PL}{low hi:List Nat}{U V q:Nat}
theorem jy (B:E.mode=md)(l:low.length=j)(hn:n<1000000000000)(T:q<4294967296)(W:∀i,i<n->E.pure 174 [.one lv,.one (.int .i64 (.ofNat i))]=some (.one (.int .u64 (.ofNat (V / 4294967296^i%4294967296))))):∀(d i k:Nat) (H:List Xz) (e:List Nat) (c b:Nat),i+d=n->d<k->
  H[iu]? =some ⟨false,0,1,Wm (low++e++(dg d (U / 4294967296^i)++hi)),false,tu⟩->e.length=i->WB e->c<4294967296->b<=1->c=q*(V%4294967296^i) / 4294967296^i->val e+q*(V%4294967296^i)=U%4294967296^i+(c+b)*4294967296^i->
  ∃g f G x,Xc E K 0 [0,1,2,7,8,9] x199_1 k ⟨[(0,.one (.own iu 0 j n)),(1,.one (.p lv)),(2,.one (.p (.int .u64 (.ofNat q)))),(7,.one (.p (.int .u64 (.ofNat c)))),(8,.one (.p (.int .u64 (.ofNat b)))),(9,.one (.p (.int .i64 (.ofNat i))))],H⟩=
   some (.exit 0,⟨g,H.set iu ⟨false,0,1,Wm (low++f++hi),false,tu⟩⟩)/\Xh g 8=some (.one (.p (.int .u64 (.ofNat x))))/\
   f.length=n/\WB f/\x<=1/\G=q*(V%4294967296^n) / 4294967296^n/\val f+q*(V%4294967296^n)=U%4294967296^n+(G+x)*4294967296^n
 |_,_,0,_,_,_,_,_,h,_,_,_,_,_,_,_=>by omega
 |0,i,k+1,H,e,c,b,hi',_,hu,h1,h2,h3,h4,h4',h5=>by
  obtain rfl:i=n:=by omega
  rw[show dg 0 (U / 4294967296^i)=[]from rfl,ZO]at hu;have :∃g,Xc E K 0 [0,1,2,7,8,9] x199_1 (k+1) ⟨[(0,.one (.own iu 0 j i)),(1,.one (.p lv)),(2,.one (.p (.int .u64 (.ofNat q)))),(7,.one (.p (.int .u64 (.ofNat c)))),(8,.one (.p (.int .u64 (.ofNat b)))),(9,.one (.p (.int .i64 (.ofNat i))))],H⟩=some (.exit 0,⟨g,H⟩)/\Xh g 8=some (.one (.p (.int .u64 (.ofNat b)))):=by
   apply VM
   ·obtain⟨Z,lK,oD,oS,oR,dS,dD,e1,e2,e3,e4,e5,e6,e7,N,R⟩:=T7;rw[<-e2,N];simp only[Tj,R,Xq,reduceIte,Nat.reduceEqDiff,x199_1,Zv];rfl
   ·simp only[Xp,reduceIte,Nat.reduceEqDiff]
  obtain⟨g,w,M⟩:=this;exact⟨g,e,c,b,by rw[Rw hu];exact w,M,h1,h2,h4,h4',h5⟩
 |d+1,i,k+1,H,e,c,b,hi',hk,hu,h1,h2,h3,h4,h4',h5=>by
  have A:i<n:=by omega
  have D:=W i A;obtain⟨v,o⟩:∃v,v=V / 4294967296^i%4294967296:=⟨_,rfl⟩;obtain⟨a,y⟩:∃a,a=U / 4294967296^i%4294967296:=⟨_,rfl⟩;have P:v<4294967296:=by omega
  have a0:a<4294967296:=by omega
  rw[lL,ZR,<-y]at hu;rw[<-o]at D;have C:(low++e).length=j+i:=by rw[Zl,l,h1]
  have ht:=Tc T P (z:=0) (u:=c) (by omega) h3;obtain⟨t,I⟩:∃t,t=q*v+c:=⟨_,rfl⟩;have f2:a%18446744073709551616=a:=Zf (by omega);have f3:q*v%18446744073709551616=q*v:=Zf (by omega);have S:t%18446744073709551616=t:=Zf (by omega);have f6:Xe .i64 (.ofNat (i+1))=.ofNat (i+1):=wrap_i64 (by omega);have f7:(4294967296+a)%18446744073709551616=4294967296+a:=Zf (by omega);have k1:Xe .u64 (.ofNat (4294967296+a)-.ofNat (t%4294967296))=.ofNat (4294967296+a-t%4294967296):=Qu (by omega) (by omega);have X:Xe .u64 (.ofNat (4294967296+a-t%4294967296)-.ofNat b)=.ofNat (4294967296+a-t%4294967296-b):=Qu (by omega) (by omega);obtain⟨s,Q⟩:∃s,s=4294967296+a-t%4294967296-b:=⟨_,rfl⟩;have k3:Xe .u64 (.ofNat 1-.ofNat (s / 4294967296))=.ofNat (1-s / 4294967296):=Qu (by omega) (by decide);have f8:s / 4294967296%18446744073709551616=s / 4294967296:=Zf (by omega);have f9:t / 4294967296%18446744073709551616=t / 4294967296:=Zf (by omega);have J:s%4294967296%4294967296=s%4294967296:=Nat.mod_mod ..;have F:s%4294967296+t%4294967296+b=a+4294967296*(1-s / 4294967296):=by omega
  have O:t / 4294967296<4294967296:=by omega
  have m:=sc h5 I rfl F;have r:=rN h4' o;rw[<-I]at r;obtain⟨g,f,G,x,w,M,g3,g4,g5,g6,g7⟩:=jy B l hn T W d (i+1) k (H.set iu ⟨false,0,1,Wm (low++(e++[s%4294967296])++(dg d (U / 4294967296^(i+1))++hi)),false,tu⟩) (e++[s%4294967296]) (t / 4294967296) (1-s / 4294967296) (by omega) (by omega)
   (Q7 hu) (by simp[h1]) (h2.snoc (by omega)) O (by omega) r (by rw[NQ _ _ h1,SN,SN,<-o,<-y,ZJ];exact m)
  rw[List.set_set]at w;refine⟨g,f,G,x,?_,M,g3,g4,g5,g6,g7⟩;rw[<-Zq low e [s%4294967296],<-OP (low++e) _ a (s%4294967296) C]at w;have Y:=X5 (OQ (low++e) (dg d (U / 4294967296^(i+1))++hi) a C);have q1:Tx .u64 (.ofNat t) (.ofNat 4294967296)=some (.p (.int .u64 (.ofNat (t / 4294967296)))):=by
   show some (DL.p (.int .u64 (Xe .u64 (.ofNat (t / 4294967296)))))=_;rw[wrap_u64,f9]
  have q2:Tx .u64 (.ofNat s) (.ofNat 4294967296)=some (.p (.int .u64 (.ofNat (s / 4294967296)))):=by
   show some (DL.p (.int .u64 (Xe .u64 (.ofNat (s / 4294967296)))))=_;rw[wrap_u64,f8]
  have q3:U9 .u64 (.ofNat t) (.ofNat 4294967296)=some (.p (.int .u64 (.ofNat (t%4294967296)))):=rfl;have q4:U9 .u64 (.ofNat s) (.ofNat 4294967296)=some (.p (.int .u64 (.ofNat (s%4294967296)))):=rfl;rw[<-Q]at X;have L:(q*v+c)%18446744073709551616=t:=by rw[<-I];exact S
  clear m F r Q ht S I;obtain⟨Z,lK,oD,oS,oR,dS,dD,e1,e2,e3,e4,e5,e6,e7,N,R⟩:=T7;rw[<-e2]at w⊢;rw[N];simp only[Tj,R,Xq,reduceIte,Nat.reduceEqDiff,Nat.reduceLeDiff,Zs,x199_1,B,XW,D,hu,Y,A,f2,f3,f6,f7,J,L,k1,X,k3,q1,q2,q3,q4,WG];exact w
end
end Go.Proofs.YtefpgecinlekpaaGreat
namespace Go.Proofs.YtefpgecinlekpaaGreat
open Go.Ev Go.Num
theorem bc {B:Xr}(a:Std B){lv:PL}{V:Nat}(b:aY lv V)(n:Nat):X0 B fun E _=>∀i,i<n->E.pure 174 [.one lv,.one (.int .i64 (.ofNat i))]=some (.one (.int .u64 (.ofNat (V / 4294967296^i%4294967296)))):=
 X0.all n fun i _=>by
  have:=Rs a b (Xn V) i;rw[lE]at this;exact this.Xi
theorem qW {B:Xr}(k:Std B){H:List Xz}{iu j n tu:Nat}{lv:PL}{low hi:List Nat}{U V q:Nat}(m:low.length=j)(hn:n<100000000000)(C:0<V)(A:V<4294967296^n)(S:aY lv V)(hU:U<4294967296^(n+1))(G:q<4294967296)
  (hu:H[iu]? =some ⟨false,0,1,Wm (low++(dg (n+1) U++hi)),false,tu⟩):
  ∃Y b,UA B 199 [.one (.own iu 0 j (n+1)),.one (.p lv),.one (.p (.int .u64 (.ofNat q)))] H (.one (.p (.bool (decide (b=1))))) (H.set iu ⟨false,0,1,Wm (low++(dg (n+1) Y++hi)),false,tu⟩)/\Y<4294967296^(n+1)/\
   (q=U / V->b=0/\Y=U%V)/\(q=U / V+1->b=1/\Y+V=U%V+4294967296^(n+1)):=by
 have key:∀(E:Xb) (K:Nat),n+2<=K->E.mode=md->(∀i,i<n+1->E.pure 174 [.one lv,.one (.int .i64 (.ofNat i))]=some (.one (.int .u64 (.ofNat (V / 4294967296^i%4294967296)))))->
   ∃g d b c,Xc E K 0 [0,1,2,7,8,9] x199_1 K ⟨[(0,.one (.own iu 0 j (n+1))),(1,.one (.p lv)),(2,.one (.p (.int .u64 (.ofNat q)))),(7,.one (.p (.int .u64 (.ofNat 0)))),(8,.one (.p (.int .u64 (.ofNat 0)))),(9,.one (.p (.int .i64 (.ofNat 0))))],H⟩=
    some (.exit 0,⟨g,H.set iu ⟨false,0,1,Wm (low++d++hi),false,tu⟩⟩)/\Xh g 8=some (.one (.p (.int .u64 (.ofNat b))))/\d.length=n+1/\WB d/\b<=1/\c=q*(V%4294967296^(n+1)) / 4294967296^(n+1)/\val d+q*(V%4294967296^(n+1))=U%4294967296^(n+1)+(c+b)*4294967296^(n+1):=by
  intro E K L e hw;obtain⟨g,d,c,b,g1,g2,v,x,s,y,h⟩:=jy (E:=E) (K:=K) (iu:=iu) (tu:=tu) (low:=low) (hi:=hi) (U:=U) (q:=q) e m (show n+1<1000000000000 by omega) G hw (n+1) 0 K H [] 0 0 (by omega) (by omega)
   (by rw[ZN,Nat.pow_zero,Nat.div_one];exact hu) rfl WB.nil (by decide) (by decide) (by simp[Nat.mod_one]) (by simp[val,Nat.mod_one])
  exact⟨g,d,b,c,g1,g2,v,x,s,y,h⟩
 have f:q*(V%4294967296^(n+1)) / 4294967296^(n+1)=0:=by
  rw[Zf (YB A (Nat.pow_lt_pow_right (by decide) (Nat.lt_succ_self n)))];exact YJ (by rw[ZJ,ZK];exact YY A G)
 have t:∀Y b,Y<4294967296^(n+1)->b<=1->Y+q*(V%4294967296^(n+1))=U%4294967296^(n+1)+(0+b)*4294967296^(n+1)->∀r a,r<4294967296^(n+1)->a<=1->r+q*(V%4294967296^(n+1))=U%4294967296^(n+1)+(0+a)*4294967296^(n+1)->Y=r/\b=a:=by
  intro Y b I J z r a h4 h5 h6;generalize q*(V%4294967296^(n+1))=w at *;generalize U%4294967296^(n+1)=u at *;generalize 4294967296^(n+1)=p at *;have :b=0\/b=1:=by omega
  have :a=0\/a=1:=by omega
  rcases ‹b=0\/b=1› with rfl|rfl<;>rcases ‹a=0\/a=1› with rfl|rfl<;>simp only[Z4,YS,Z0]at z h6<;>first |exact⟨by omega,rfl⟩|(exfalso;omega)
 obtain⟨N,hN⟩:=(bc k S (n+1)).and (k.Xi.and (X0.ge (B:=B) (n+2)));obtain⟨I,J,z⟩:=hN N N (Zh _) (Zh _);obtain⟨T0,o,W,c0,-,-,v,x,s,y,h⟩:=key _ N z J I;rw[y,f]at h;have D:val o<4294967296^(n+1):=by have:=WN x;rwa[v]at this
 have l:=yY C A G hU D f.symm h s;refine⟨val o,W,UA.of (k.X6 _ _ rfl) ((((bc k S (n+1)).and (k.Xi.and (X0.ge (n+2))))).mono fun E K ⟨T,e,L⟩=> ?_),D,l⟩;obtain⟨g,d,b,c,M,k2,O,P,k5,k6,Q⟩:=key E K L e T;rw[k6,f]at Q;have F:val d<4294967296^(n+1):=by have:=WN P;rwa[O]at this
 obtain⟨X,Z⟩:=t _ _ D s h _ _ F k5 Q;rw[X,Z,<-Tu P O rfl,<-Zq];obtain⟨cE,lK,oD,oS,oR,dS,dD,e1,e2,e3,e4,e5,e6,e7,hL,R⟩:=T7;rw[<-e2]at M;simp only[Tj,R,WR,Xq,reduceIte,Nat.reduceEqDiff,Nat.reduceLeDiff,x199,M,k2]
section
variable {E:Xb}{K:Nat}{iu j n tu:Nat}{lv:PL}{low hi:List Nat}{U V:Nat}
theorem j3 (u:E.mode=md)(f:low.length=j)(hn:n<1000000000000)(C:∀i,i<n->E.pure 174 [.one lv,.one (.int .i64 (.ofNat i))]=some (.one (.int .u64 (.ofNat (V / 4294967296^i%4294967296))))):∀(d i k:Nat) (H:List Xz) (b:List Nat) (c:Nat),i+d=n->d<k->
  H[iu]? =some ⟨false,0,1,Wm (low++b++(dg d (U / 4294967296^i)++hi)),false,tu⟩->b.length=i->WB b->c<=1->val b+c*4294967296^i=U%4294967296^i+V%4294967296^i->
  ∃m e y,Xc E K 0 [0,1,4,5] x200_1 k ⟨[(0,.one (.own iu 0 j n)),(1,.one (.p lv)),(4,.one (.p (.int .u64 (.ofNat c)))),(5,.one (.p (.int .i64 (.ofNat i))))],H⟩=
   some (.exit 0,⟨m,H.set iu ⟨false,0,1,Wm (low++e++hi),false,tu⟩⟩)/\e.length=n/\WB e/\y<=1/\val e+y*4294967296^n=U%4294967296^n+V%4294967296^n
 |_,_,0,_,_,_,_,h,_,_,_,_,_=>by omega
 |0,i,k+1,H,b,c,hi',_,hu,h1,h2,h3,h4=>by
  obtain rfl:i=n:=by omega
  rw[show dg 0 (U / 4294967296^i)=[]from rfl,ZO]at hu;have :∃m,Xc E K 0 [0,1,4,5] x200_1 (k+1) ⟨[(0,.one (.own iu 0 j i)),(1,.one (.p lv)),(4,.one (.p (.int .u64 (.ofNat c)))),(5,.one (.p (.int .i64 (.ofNat i))))],H⟩=some (.exit 0,⟨m,H⟩)/\True:=by
   apply VM
   ·obtain⟨F,lK,oD,oS,oR,I,G,e1,e2,e3,J,L,M,N,A,R⟩:=T7;rw[<-e2,A];simp only[Tj,R,Xq,reduceIte,Nat.reduceEqDiff,x200_1,Zv];rfl
   ·trivial
  obtain⟨m,o,-⟩:=this;exact⟨m,b,c,by rw[Rw hu];exact o,h1,h2,h3,h4⟩
 |d+1,i,k+1,H,b,c,hi',hk,hu,h1,h2,h3,h4=>by
  have s:i<n:=by omega
  have w:=C i s;obtain⟨l,r⟩:∃l,l=V / 4294967296^i%4294967296:=⟨_,rfl⟩;obtain⟨a,q⟩:∃a,a=U / 4294967296^i%4294967296:=⟨_,rfl⟩;have a1:l<4294967296:=by omega
  have a0:a<4294967296:=by omega
  rw[lL,ZR,<-q]at hu;rw[<-r]at w;have v:(low++b).length=j+i:=by rw[Zl,f,h1]
  obtain⟨t,B⟩:∃t,t=a+l+c:=⟨_,rfl⟩;have O:a%18446744073709551616=a:=Zf (by omega);have P:(a+l)%18446744073709551616=a+l:=Zf (by omega);have Q:(a+l+c)%18446744073709551616=t:=by rw[<-B];exact Zf (by omega)
  have S:Xe .i64 (.ofNat (i+1))=.ofNat (i+1):=wrap_i64 (by omega);have T:t / 4294967296%18446744073709551616=t / 4294967296:=Zf (by omega);have z:t%4294967296%4294967296=t%4294967296:=Nat.mod_mod ..;have x:t%4294967296+4294967296*(t / 4294967296)=a+l+c:=by omega
  have g:=uk h4 x;obtain⟨m,e,y,o,W,X,Y,Z⟩:=j3 u f hn C d (i+1) k (H.set iu ⟨false,0,1,Wm (low++(b++[t%4294967296])++(dg d (U / 4294967296^(i+1))++hi)),false,tu⟩) (b++[t%4294967296]) (t / 4294967296) (by omega) (by omega)
   (Q7 hu) (by simp[h1]) (h2.snoc (by omega)) (by omega) (by rw[NQ _ _ h1,SN,SN,<-r,<-q,ZJ,ZK _ a];exact g)
  rw[List.set_set]at o;refine⟨m,e,y,?_,W,X,Y,Z⟩;rw[<-Zq low b [t%4294967296],<-OP (low++b) _ a (t%4294967296) v]at o;have D:=X5 (OQ (low++b) (dg d (U / 4294967296^(i+1))++hi) a v);have q2:Tx .u64 (.ofNat t) (.ofNat 4294967296)=some (.p (.int .u64 (.ofNat (t / 4294967296)))):=by
   show some (DL.p (.int .u64 (Xe .u64 (.ofNat (t / 4294967296)))))=_;rw[wrap_u64,T]
  have q4:U9 .u64 (.ofNat t) (.ofNat 4294967296)=some (.p (.int .u64 (.ofNat (t%4294967296)))):=rfl;clear g x B;obtain⟨F,lK,oD,oS,oR,I,G,e1,e2,e3,J,L,M,N,A,R⟩:=T7;rw[<-e2]at o⊢;rw[A];simp only[Tj,R,Xq,reduceIte,Nat.reduceEqDiff,Nat.reduceLeDiff,Zs,x200_1,u,XW,w,hu,D,s,O,P,Q,S,z,q2,q4,WG];exact o
end
theorem nj {B:Xr}(d:Std B){H:List Xz}{iu j n tu:Nat}{lv:PL}{low hi:List Nat}{Y V Z:Nat}(a:low.length=j)(I:n<100000000000)(o:V<4294967296^n)(s:aY lv V)(q:Y<4294967296^n)(G:Z<4294967296^n)(h:Y+V=Z+4294967296^n)
  (r:H[iu]? =some ⟨false,0,1,Wm (low++(dg n Y++hi)),false,tu⟩):
  UA B 200 [.one (.own iu 0 j n),.one (.p lv)] H (.XY []) (H.set iu ⟨false,0,1,Wm (low++(dg n Z++hi)),false,tu⟩):=by
 refine UA.of (d.X6 _ _ rfl) ((((bc d s n).and (d.Xi.and (X0.ge (n+1))))).mono fun E K ⟨m,e,D⟩=> ?_);obtain⟨t,l,c,g,i,k,C,b⟩:=j3 (E:=E) (K:=K) (iu:=iu) (tu:=tu) (low:=low) (hi:=hi) (U:=Y) e a (show n<1000000000000 by omega) m n 0 K H [] 0 (by omega) (by omega)
   (by rw[ZN,Nat.pow_zero,Nat.div_one];exact r) rfl WB.nil (by decide) (by simp[val,Nat.mod_one])
 rw[Zf q,Zf o,h]at b;have J:val l<4294967296^n:=by have:=WN k;rwa[i]at this
 have f:val l=Z:=by
  generalize 4294967296^n=p at *;have :c=0\/c=1:=by omega
  rcases this with rfl|rfl
  ·rw[YS]at b;omega
  ·rw[Z0]at b;omega
 rw[<-f,<-Tu k i rfl,<-Zq];obtain⟨u,L,M,O,N,w,v,e1,e2,e3,x,y,z,A,F,R⟩:=T7;rw[<-e2]at g;simp only[Tj,R,WR,Xq,reduceIte,Nat.reduceEqDiff,Nat.reduceLeDiff,x200,g]
end Go.Proofs.YtefpgecinlekpaaGreat
