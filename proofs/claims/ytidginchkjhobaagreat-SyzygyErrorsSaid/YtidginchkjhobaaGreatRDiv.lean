/- The reference's integers: the digit of a quotient, guessed (written by gen_rdiv1.py). -/
import Derived.Test.YtidginchkjhobaaGreatRat
set_option maxHeartbeats 16000000
set_option maxRecDepth 100000
namespace Go.Proofs.YtidginchkjhobaaGreat
open Go.Ev Go.Num
theorem mB {r:Nat}(h:r<4294967296):r*4294967296%18446744073709551616=r*4294967296:=by omega
theorem Ek {r u:Nat}(h:r<4294967296)(a:u<4294967296):(r*4294967296+u)%18446744073709551616=r*4294967296+u:=by omega
section
variable {E:Xa}{K:Nat}{H:List Xz}{lu lv:PL}{m k:Nat}{U V:List Nat}{v1 v2 u2 p q r:Nat}
theorem vp (S:Ui lu U)(n:Ui lv V)(J:m<1000000000000)(f:V[m+1]? =some v1)(z:V[m]? =some v2)(A:U[m]? =some u2)(o:v1<4294967296)(q:v2<4294967296)(b:u2<4294967296)(a:r<4294967296)(L:p<=4294967298)(j:4294967296<=p+1)(i:¬4294967296<=r+v1):Xb E K 0 [0,1,5,7,8] x195_1 (k+1) ⟨[(0,.one (.p lu)),(1,.one (.p lv)),(5,.one (.p (.int .i64 (.ofNat (m+2))))),(7,.one (.p (.int .u64 (.ofNat (p+1))))),(8,.one (.p (.int .u64 (.ofNat r))))],H⟩=Xb E K 0 [0,1,5,7,8] x195_1 k ⟨[(0,.one (.p lu)),(1,.one (.p lv)),(5,.one (.p (.int .i64 (.ofNat (m+2))))),(7,.one (.p (.int .u64 (.ofNat p)))),(8,.one (.p (.int .u64 (.ofNat (r+v1)))))],H⟩:=by
 have Q:Xe .i64 (.ofNat (m+2)-.ofNat 2)=.ofNat m:=by rw[Wj (by omega) (by omega)];rfl
 have l:Xe .i64 (.ofNat (m+2)-.ofNat 1)=.ofNat (m+1):=by rw[Wj (by omega) (by omega)];rfl
 have c:v1%18446744073709551616=v1:=Zg (by omega);have v:v2%18446744073709551616=v2:=Zg (by omega);have w:u2%18446744073709551616=u2:=Zg (by omega);have e:(r+v1)%18446744073709551616=r+v1:=Zg (by omega);have x:r*4294967296%18446744073709551616=r*4294967296:=mB a;have y:(r*4294967296+u2)%18446744073709551616=r*4294967296+u2:=Ek a b;have d:Xe .u64 (.ofNat (p+1)-.ofNat 1)=.ofNat p:=by rw[TM (by omega),wrap_u64,Yl,Zg (by omega)]
 obtain⟨s,M,N,P,O,u,t,B,g,C,D,F,G,I,h,R⟩:=T6;rw[<-g,h];simp only[Tl,R,Xq,reduceIte,Nat.reduceEqDiff,Nat.reduceAdd,x195_1,l,n.idx f,c,d,e,j,i]
theorem qM (T:Ui lu U)(o:Ui lv V)(L:m<1000000000000)(g:V[m+1]? =some v1)(A:V[m]? =some v2)(B:U[m]? =some u2)(q:v1<4294967296)(s:v2<4294967296)(c:u2<4294967296)(b:r<4294967296)(M:p<=4294967298)(l:4294967296<=p+1)(j:4294967296<=r+v1):∃a,Xb E K 0 [0,1,5,7,8] x195_1 (k+1) ⟨[(0,.one (.p lu)),(1,.one (.p lv)),(5,.one (.p (.int .i64 (.ofNat (m+2))))),(7,.one (.p (.int .u64 (.ofNat (p+1))))),(8,.one (.p (.int .u64 (.ofNat r))))],H⟩=some (.exit 0,⟨a,H⟩)/\Xh a 7=some (.one (.p (.int .u64 (.ofNat p)))):=by
 have S:Xe .i64 (.ofNat (m+2)-.ofNat 2)=.ofNat m:=by rw[Wj (by omega) (by omega)];rfl
 have n:Xe .i64 (.ofNat (m+2)-.ofNat 1)=.ofNat (m+1):=by rw[Wj (by omega) (by omega)];rfl
 have d:v1%18446744073709551616=v1:=Zg (by omega);have w:v2%18446744073709551616=v2:=Zg (by omega);have x:u2%18446744073709551616=u2:=Zg (by omega);have f:(r+v1)%18446744073709551616=r+v1:=Zg (by omega);have y:r*4294967296%18446744073709551616=r*4294967296:=mB b;have z:(r*4294967296+u2)%18446744073709551616=r*4294967296+u2:=Ek b c;have e:Xe .u64 (.ofNat (p+1)-.ofNat 1)=.ofNat p:=by rw[TM (by omega),wrap_u64,Yl,Zg (by omega)]
 apply VE
 ·obtain⟨t,N,O,Q,P,v,u,C,h,D,F,G,I,J,i,R⟩:=T6;rw[<-h,i];simp only[Tl,R,Xq,reduceIte,Nat.reduceEqDiff,Nat.reduceAdd,x195_1,n,o.idx g,d,e,f,l,j];rfl
 ·simp only[Xm,reduceIte,Nat.reduceEqDiff]
theorem vn (D:Ui lu U)(b:Ui lv V)(S:m<1000000000000)(o:V[m+1]? =some v1)(q:V[m]? =some v2)(s:U[m]? =some u2)(F:v1<4294967296)(c:v2<4294967296)(d:u2<4294967296)(a:r<4294967296)(y:¬4294967296<=p+1)(A:r*4294967296+u2<(p+1)*v2)(w:¬4294967296<=r+v1):Xb E K 0 [0,1,5,7,8] x195_1 (k+1) ⟨[(0,.one (.p lu)),(1,.one (.p lv)),(5,.one (.p (.int .i64 (.ofNat (m+2))))),(7,.one (.p (.int .u64 (.ofNat (p+1))))),(8,.one (.p (.int .u64 (.ofNat r))))],H⟩=Xb E K 0 [0,1,5,7,8] x195_1 k ⟨[(0,.one (.p lu)),(1,.one (.p lv)),(5,.one (.p (.int .i64 (.ofNat (m+2))))),(7,.one (.p (.int .u64 (.ofNat p)))),(8,.one (.p (.int .u64 (.ofNat (r+v1)))))],H⟩:=by
 have C:Xe .i64 (.ofNat (m+2)-.ofNat 2)=.ofNat m:=by rw[Wj (by omega) (by omega)];rfl
 have B:Xe .i64 (.ofNat (m+2)-.ofNat 1)=.ofNat (m+1):=by rw[Wj (by omega) (by omega)];rfl
 have e:v1%18446744073709551616=v1:=Zg (by omega);have f:v2%18446744073709551616=v2:=Zg (by omega);have g:u2%18446744073709551616=u2:=Zg (by omega);have i:(r+v1)%18446744073709551616=r+v1:=Zg (by omega);have l:r*4294967296%18446744073709551616=r*4294967296:=mB a;have n:(r*4294967296+u2)%18446744073709551616=r*4294967296+u2:=Ek a d;have h:Xe .u64 (.ofNat (p+1)-.ofNat 1)=.ofNat p:=by rw[TM (by omega),wrap_u64,Yl,Zg (by omega)]
 have j:(p+1)*v2%18446744073709551616=(p+1)*v2:=by
  have:=Tc (x:=p+1) (by omega) c (z:=0) (u:=0) (by omega) (by omega);exact Zg (by omega)
 obtain⟨G,T,W,Y,X,J,I,L,t,M,N,O,P,Q,v,R⟩:=T6;rw[<-t,v];simp only[Tl,R,Xq,reduceIte,Nat.reduceEqDiff,Nat.reduceAdd,x195_1,B,C,b.idx o,b.idx q,D.idx s,e,f,g,h,i,j,l,n,y,A,w]
theorem qL (F:Ui lu U)(c:Ui lv V)(T:m<1000000000000)(q:V[m+1]? =some v1)(s:V[m]? =some v2)(t:U[m]? =some u2)(G:v1<4294967296)(d:v2<4294967296)(e:u2<4294967296)(b:r<4294967296)(A:¬4294967296<=p+1)(B:r*4294967296+u2<(p+1)*v2)(y:4294967296<=r+v1):∃a,Xb E K 0 [0,1,5,7,8] x195_1 (k+1) ⟨[(0,.one (.p lu)),(1,.one (.p lv)),(5,.one (.p (.int .i64 (.ofNat (m+2))))),(7,.one (.p (.int .u64 (.ofNat (p+1))))),(8,.one (.p (.int .u64 (.ofNat r))))],H⟩=some (.exit 0,⟨a,H⟩)/\Xh a 7=some (.one (.p (.int .u64 (.ofNat p)))):=by
 have D:Xe .i64 (.ofNat (m+2)-.ofNat 2)=.ofNat m:=by rw[Wj (by omega) (by omega)];rfl
 have C:Xe .i64 (.ofNat (m+2)-.ofNat 1)=.ofNat (m+1):=by rw[Wj (by omega) (by omega)];rfl
 have f:v1%18446744073709551616=v1:=Zg (by omega);have g:v2%18446744073709551616=v2:=Zg (by omega);have h:u2%18446744073709551616=u2:=Zg (by omega);have j:(r+v1)%18446744073709551616=r+v1:=Zg (by omega);have n:r*4294967296%18446744073709551616=r*4294967296:=mB b;have o:(r*4294967296+u2)%18446744073709551616=r*4294967296+u2:=Ek b e;have i:Xe .u64 (.ofNat (p+1)-.ofNat 1)=.ofNat p:=by rw[TM (by omega),wrap_u64,Yl,Zg (by omega)]
 have l:(p+1)*v2%18446744073709551616=(p+1)*v2:=by
  have:=Tc (x:=p+1) (by omega) d (z:=0) (u:=0) (by omega) (by omega);exact Zg (by omega)
 apply VE
 ·obtain⟨I,W,X,Z,Y,L,J,M,v,N,O,P,Q,S,w,R⟩:=T6;rw[<-v,w];simp only[Tl,R,Xq,reduceIte,Nat.reduceEqDiff,Nat.reduceAdd,x195_1,C,D,c.idx q,c.idx s,F.idx t,f,g,h,i,j,l,n,o,A,B,y];rfl
 ·simp only[Xm,reduceIte,Nat.reduceEqDiff]
theorem yd (w:Ui lu U)(y:Ui lv V)(P:m<1000000000000)(G:V[m+1]? =some v1)(j:V[m]? =some v2)(l:U[m]? =some u2)(A:v1<4294967296)(c:v2<4294967296)(d:u2<4294967296)(b:r<4294967296)(s:¬4294967296<=q)(t:¬r*4294967296+u2<q*v2):∃a,Xb E K 0 [0,1,5,7,8] x195_1 (k+1) ⟨[(0,.one (.p lu)),(1,.one (.p lv)),(5,.one (.p (.int .i64 (.ofNat (m+2))))),(7,.one (.p (.int .u64 (.ofNat q)))),(8,.one (.p (.int .u64 (.ofNat r))))],H⟩=some (.exit 0,⟨a,H⟩)/\Xh a 7=some (.one (.p (.int .u64 (.ofNat q)))):=by
 have v:Xe .i64 (.ofNat (m+2)-.ofNat 2)=.ofNat m:=by rw[Wj (by omega) (by omega)];rfl
 have X:Xe .i64 (.ofNat (m+2)-.ofNat 1)=.ofNat (m+1):=by rw[Wj (by omega) (by omega)];rfl
 have F:v1%18446744073709551616=v1:=Zg (by omega);have e:v2%18446744073709551616=v2:=Zg (by omega);have f:u2%18446744073709551616=u2:=Zg (by omega);have h:r*4294967296%18446744073709551616=r*4294967296:=mB b;have i:(r*4294967296+u2)%18446744073709551616=r*4294967296+u2:=Ek b d;have g:q*v2%18446744073709551616=q*v2:=by
  have:=Tc (x:=q) (by omega) c (z:=0) (u:=0) (by omega) (by omega);exact Zg (by omega)
 apply VE
 ·obtain⟨B,Q,S,W,T,D,C,I,n,J,L,M,N,O,o,R⟩:=T6;rw[<-n,o];simp only[Tl,R,Xq,reduceIte,Nat.reduceEqDiff,Nat.reduceAdd,x195_1,v,y.idx j,w.idx l,e,f,g,h,i,s,t];rfl
 ·simp only[Xm,reduceIte,Nat.reduceEqDiff]
theorem nn (z:Ui lu U)(A:Ui lv V)(x:m<1000000000000)(u:V[m+1]? =some v1)(v:V[m]? =some v2)(w:U[m]? =some u2)(o:v1<4294967296)(g:v2<4294967296)(s:u2<4294967296){a:Nat}(I:a<v1*4294967296+4294967296):∀(d q r:Nat),q*v1+r=a->r<4294967296->q<=4294967298->4294967296<=r+d*v1->(4294967296<=q+1\/a*4294967296+u2<(q+1)*(v1*4294967296+v2))->∀k,d<k->
  ∃b n,Xb E K 0 [0,1,5,7,8] x195_1 k ⟨[(0,.one (.p lu)),(1,.one (.p lv)),(5,.one (.p (.int .i64 (.ofNat (m+2))))),(7,.one (.p (.int .u64 (.ofNat q)))),(8,.one (.p (.int .u64 (.ofNat r))))],H⟩=some (.exit 0,⟨b,H⟩)/\Xh b 7=some (.one (.p (.int .u64 (.ofNat n))))/\qd v1 v2 a u2 n:=by
 intro d;induction d with
 |zero=>intro q r _ l _ D;omega
 |succ d J=>
  intro q r e l N D C k M;obtain⟨k,rfl⟩:∃L,k=L+1:=⟨k-1,by omega⟩;by_cases j:4294967296<=q
  ·obtain⟨p,rfl⟩:∃p,q=p+1:=⟨q-1,by omega⟩;have t:p*v1+(r+v1)=a:=by rw[Nat.succ_mul]at e;omega
   by_cases i:4294967296<=r+v1
   ·obtain⟨F,G⟩:=RZ (u2:=u2) t i g I;obtain⟨b,c,f⟩:=qM (E:=E) (K:=K) (k:=k) (H:=H) z A x u v w o g s l (by omega) j i;exact⟨b,p,c,f,F,G,.inl (by omega)⟩
   ·obtain⟨b,n,c,f⟩:=J p (r+v1) t (by omega) (by omega) (by rw[Nat.succ_mul]at D;omega) (.inl j) k (by omega);exact⟨b,n,by rw[vp z A x u v w o g s l (by omega) j i];exact c,f⟩
  ·by_cases B:r*4294967296+u2<q*v2
   ·obtain⟨p,rfl⟩:∃p,q=p+1:=by
     rcases Yh q with h|h
     ·subst h;omega
     ·exact⟨q-1,by omega⟩
    have t:p*v1+(r+v1)=a:=by rw[Nat.succ_mul]at e;omega
    have y:=fZ e B;by_cases i:4294967296<=r+v1
    ·obtain⟨F,G⟩:=RZ (u2:=u2) t i g I;obtain⟨b,c,f⟩:=qL (E:=E) (K:=K) (k:=k) (H:=H) z A x u v w o g s l j B i;exact⟨b,p,c,f,F,G,.inr y⟩
    ·obtain⟨b,n,c,f⟩:=J p (r+v1) t (by omega) (by omega) (by rw[Nat.succ_mul]at D;omega) (.inr y) k (by omega);exact⟨b,n,by rw[vn z A x u v w o g s l j B i];exact c,f⟩
   ·obtain⟨b,c,f⟩:=yd (E:=E) (K:=K) (k:=k) (H:=H) z A x u v w o g s l j B;refine⟨b,q,c,f,by omega,Nq e (by omega),?_⟩;rcases C with C|C
    ·exact .inl (by omega)
    ·exact .inr C
end
theorem we {B:Xs}(hB:Std B){lu lv:PL}{I J:List Nat}{m U V:Nat}(su:Ui lu I)(sv:Ui lv J)(a9:J.length=m+2)(hm:m<100000000000)(hN:qa V (m+2))(hU:U<V*4294967296)
  (hV:∀i,i<m+2->J[i]? =some (V / 4294967296^i%4294967296)) (hu:∀i,i<m+3->I[i]? =some (U / 4294967296^i%4294967296)):
  ∃q,Xx B 195 [.one lu,.one lv] (.one (.int .u64 (.ofNat q)))/\q<4294967296/\U / V<=q/\q<=U / V+1:=by
 have A:=hN.2;have N:U<4294967296^(m+3):=by
  have:=Yu A (show 0<4294967296 by decide);rw[<-ZK]at this;exact YI hU this
 obtain⟨v1,f⟩:∃v1,v1=V / 4294967296^(m+1):=⟨_,rfl⟩;have a5:v1<4294967296:=by rw[f];exact Uy A
 obtain⟨v2,t⟩:∃v2,v2=V / 4294967296^m%4294967296:=⟨_,rfl⟩;have a8:v2<4294967296:=by rw[t];exact ZY _ (by decide)
 obtain⟨l,s⟩:∃l,l=U / 4294967296^(m+2):=⟨_,rfl⟩;have M:l<4294967296:=by rw[s];exact Uy N
 obtain⟨y,o⟩:∃y,y=U / 4294967296^(m+1)%4294967296:=⟨_,rfl⟩;have a0:y<4294967296:=by rw[o];exact ZY _ (by decide)
 obtain⟨u2,r⟩:∃u2,u2=U / 4294967296^m%4294967296:=⟨_,rfl⟩;have a4:u2<4294967296:=by rw[r];exact ZY _ (by decide)
 obtain⟨a,e⟩:∃a,a=l*4294967296+y:=⟨_,rfl⟩;have b:a=U / 4294967296^(m+1):=by rw[e,s,o];exact(Oq U (m+1)).symm
 have g:=jw hN;have c:=xu (m:=m) hU;rw[<-f]at g c;rw[<-b]at c;have u:J[m+1]? =some v1:=by rw[hV (m+1) (by omega),f,Zg (Uy A)]
 have S:J[m]? =some v2:=by rw[hV m (by omega),t]
 have Q:I[m+2]? =some l:=by rw[hu (m+2) (by omega),s,Zg (Uy N)]
 have O:I[m+1]? =some y:=by rw[hu (m+1) (by omega),o]
 have P:I[m]? =some u2:=by rw[hu m (by omega),r]
 obtain⟨w,rfl⟩:∃w,v1=w+1:=⟨v1-1,by omega⟩;have C:=YC a (w+1);have T:=ZY a (show 0<w+1 by omega);obtain⟨d,z⟩:∃d,d=a / (w+1):=⟨_,rfl⟩;obtain⟨Y,n⟩:∃Y,Y=a%(w+1):=⟨_,rfl⟩;rw[<-z,<-n]at C;rw[<-n]at T;have W:d<=4294967298:=by
  rcases Yj 4294967298 d with h|h
  ·exfalso;have:=Z9 (w+1) (show 4294967299<=d from h);omega
  ·exact h
 have k:a*4294967296+u2<(d+1)*((w+1)*4294967296+v2):=by
  rw[Nat.mul_add,<-Yi];have h1:a+1<=(d+1)*(w+1):=by rw[ZG,ZZ,ZH d];omega
  have h2:=Zp 4294967296 h1;have h3:=Zt ((d+1)*v2);omega
 have X:∃q,q<4294967296/\U / V<=q/\q<=U / V+1/\∀(E:Xa) (K:Nat),3<=K->∃G,Xb E K 0 [0,1,5,7,8] x195_1 K ⟨[(0,.one (.p lu)),(1,.one (.p lv)),(5,.one (.p (.int .i64 (.ofNat (m+2))))),(7,.one (.p (.int .u64 (.ofNat d)))),(8,.one (.p (.int .u64 (.ofNat Y))))],[]⟩=some (.exit 0,⟨G,[]⟩)/\Xh G 7=some (.one (.p (.int .u64 (.ofNat q)))):=by
  have j:=fun(E:Xa) (K:Nat) (hK:3<=K)=>nn (E:=E) (K:=K) (H:=[]) su sv (by omega) u S P a5 a8 a4 c 2 d Y (by rw[ZH];exact C) (by omega) W (by omega) (.inr k) K (by omega)
  have Z:∀q x,qd (w+1) v2 a u2 q->qd (w+1) v2 a u2 x->q=x:=by
   intro q x ⟨a1,a2,a3⟩ ⟨b1,b2,L⟩;rcases Nat.lt_trichotomy q x with h|h|h
   ·exfalso;rcases a3 with a3|a3
    ·omega
    ·have:=Zp ((w+1)*4294967296+v2) (show q+1<=x from h);omega
   ·exact h
   ·exfalso;rcases L with L|L
    ·omega
    ·have:=Zp ((w+1)*4294967296+v2) (show x+1<=q from h);omega
  obtain⟨T0,q,-,-,a6⟩:=j (B.E 3 3) 3 (Zh _);have a7:=a6;rw[f,t,b,r]at a6;obtain⟨D,F⟩:=cY hN hU a6;refine⟨q,a7.1,D,F,fun E K hK=> ?_⟩;obtain⟨G,x,b1,b2,L⟩:=j E K hK;rw[Z q x a7 L];exact⟨G,b1,b2⟩
 obtain⟨q,hq,D,F,hl⟩:=X;refine⟨q,Xx.of (hB.Wa _ _ rfl) (((X1.ge 3).and hB.Xj).mono fun E K ⟨hK,b0⟩=> ?_),hq,D,F⟩;obtain⟨G,a1,a2⟩:=hl E K hK;have s1:Xe .i64 (.ofNat (m+2)-.ofNat 1)=.ofNat (m+1):=by rw[Wj (by omega) (by omega)];rfl
 have f1:l%18446744073709551616=l:=Zg (by omega);have f2:y%18446744073709551616=y:=Zg (by omega);have f3:(w+1)%18446744073709551616=w+1:=Zg (by omega);have f4:l*4294967296%18446744073709551616=l*4294967296:=mB M;have f5:(l*4294967296+y)%18446744073709551616=a:=by rw[e];exact Ek M a0
 have o3:Tz .u64 (.ofNat a) (.ofNat (w+1))=some (.p (.int .u64 (.ofNat d))):=by
  show some (DL.p (.int .u64 (Xe .u64 (.ofNat (a / (w+1))))))=_;rw[<-z,wrap_u64,Zg (by omega)]
 have o4:U8 .u64 (.ofNat a) (.ofNat (w+1))=some (.p (.int .u64 (.ofNat Y))):=by rw[n];rfl
 have v:=sv.len;rw[a9]at v;clear k C c g e b f t s o r z n W hl;obtain⟨cE,lK,oD,oS,oR,dS,dD,h1,h2,h3,h4,h5,h6,h7,hL,R⟩:=T6;rw[<-h2]at a1;simp only[Tl,R,Xq,reduceIte,Nat.reduceEqDiff,Nat.reduceLeDiff,Nat.reduceAdd,x195,v,s1,su.idx Q,su.idx O,sv.idx u,f1,f2,f3,f4,f5,o3,o4,a1,a2]
end Go.Proofs.YtidginchkjhobaaGreat
namespace Go.Num
theorem sf {q V c i a:Nat}(b:c=q*(V%4294967296^i) / 4294967296^i)(d:a=V / 4294967296^i%4294967296):(q*a+c) / 4294967296=q*(V%4294967296^(i+1)) / 4294967296^(i+1):=by
 rw[SO,<-d,Nat.mul_add,ZK,<-Nat.div_div_eq_div_mul,Nat.mul_left_comm,Nat.add_mul_div_left _ _ (Sh i),<-b,Y1]
theorem lN (V i:Nat):(Xd V)[i]?.getD 0=V / 4294967296^i%4294967296:=by
 by_cases h:i<(Xd V).length
 ·have e:Xd V=dg (Xd V).length V:=Tx (Xo V) rfl (Xl V);rw[e,bT h];rfl
 ·have a:=Te V;have b:=Vj (show(Xd V).length<=i by omega);rw[YB (by omega),YY (Z2 a b)];rfl
theorem yY {U V Y q c b n:Nat}(d:0<V)(k:V<4294967296^n)(o:q<4294967296)(m:U<4294967296^(n+1))(s:Y<4294967296^(n+1))(l:c=q*(V%4294967296^(n+1)) / 4294967296^(n+1))(h:Y+q*(V%4294967296^(n+1))=U%4294967296^(n+1)+(c+b)*4294967296^(n+1))(t:b<=1):
  (q=U / V->b=0/\Y=U%V)/\(q=U / V+1->b=1/\Y+V=U%V+4294967296^(n+1)):=by
 have f:V<4294967296^(n+1):=YI k (Y5 (by decide) (Nat.lt_succ_self n));rw[Zg f]at l h;rw[Zg m]at h;have i:q*V<4294967296^(n+1):=by rw[ZK,ZH];exact Nat.mul_lt_mul'' k o
 have g:c=0:=by rw[l];exact YY i
 rw[g,Z8]at h;have j:=YC U V;have r:=ZY U d;rw[ZH]at j;constructor
 ·intro e;rw[<-e]at j;have a:b=0:=by
   rcases Yj b 1 with hb1|hb1
   ·omega
   ·have :b=1:=by omega
    rw[this,ZZ]at h;exfalso;generalize q*V=w at *;generalize U%V=z at *;generalize 4294967296^(n+1)=p at *;omega
  rw[a,Y4]at h;exact⟨a,by omega⟩
 ·intro e;rw[e,ZG,ZZ]at h;have a:b=1:=by
   rcases Yj b 1 with hb1|hb1
   ·have :b=0:=by omega
    rw[this,Y4]at h;exfalso;generalize U / V*V=w at *;generalize U%V=z at *;omega
   ·omega
  rw[a,ZZ]at h;exact⟨a,by omega⟩
end Go.Num
namespace Go.Proofs.YtidginchkjhobaaGreat
open Go.Ev Go.Num
section
variable {E:Xa}{K:Nat}{iu j n tu:Nat}{lv:PL}{low hi:List Nat}{U V q:Nat}
theorem ju (B:E.mode=md)(l:low.length=j)(hn:n<1000000000000)(T:q<4294967296)(W:∀i,i<n->E.pure 163 [.one lv,.one (.int .i64 (.ofNat i))]=some (.one (.int .u64 (.ofNat (V / 4294967296^i%4294967296))))):∀(d i k:Nat) (H:List Xz) (e:List Nat) (c b:Nat),i+d=n->d<k->
  H[iu]? =some ⟨false,0,1,Wi (low++e++(dg d (U / 4294967296^i)++hi)),false,tu⟩->e.length=i->Wz e->c<4294967296->b<=1->c=q*(V%4294967296^i) / 4294967296^i->val e+q*(V%4294967296^i)=U%4294967296^i+(c+b)*4294967296^i->
  ∃g f G x,Xb E K 0 [0,1,2,7,8,9] x196_1 k ⟨[(0,.one (.own iu 0 j n)),(1,.one (.p lv)),(2,.one (.p (.int .u64 (.ofNat q)))),(7,.one (.p (.int .u64 (.ofNat c)))),(8,.one (.p (.int .u64 (.ofNat b)))),(9,.one (.p (.int .i64 (.ofNat i))))],H⟩=
   some (.exit 0,⟨g,H.set iu ⟨false,0,1,Wi (low++f++hi),false,tu⟩⟩)/\Xh g 8=some (.one (.p (.int .u64 (.ofNat x))))/\
   f.length=n/\Wz f/\x<=1/\G=q*(V%4294967296^n) / 4294967296^n/\val f+q*(V%4294967296^n)=U%4294967296^n+(G+x)*4294967296^n
 |_,_,0,_,_,_,_,_,h,_,_,_,_,_,_,_=>by omega
 |0,i,k+1,H,e,c,b,hi',_,hu,h1,h2,h3,h4,h4',h5=>by
  obtain rfl:i=n:=by omega
  rw[show dg 0 (U / 4294967296^i)=[]from rfl,ZF]at hu;have :∃g,Xb E K 0 [0,1,2,7,8,9] x196_1 (k+1) ⟨[(0,.one (.own iu 0 j i)),(1,.one (.p lv)),(2,.one (.p (.int .u64 (.ofNat q)))),(7,.one (.p (.int .u64 (.ofNat c)))),(8,.one (.p (.int .u64 (.ofNat b)))),(9,.one (.p (.int .i64 (.ofNat i))))],H⟩=some (.exit 0,⟨g,H⟩)/\Xh g 8=some (.one (.p (.int .u64 (.ofNat b)))):=by
   apply VE
   ·obtain⟨Z,lK,oD,oS,oR,dS,dD,e1,e2,e3,e4,e5,e6,e7,N,R⟩:=T6;rw[<-e2,N];simp only[Tl,R,Xq,reduceIte,Nat.reduceEqDiff,x196_1,Zx];rfl
   ·simp only[Xm,reduceIte,Nat.reduceEqDiff]
  obtain⟨g,w,M⟩:=this;exact⟨g,e,c,b,by rw[Rt hu];exact w,M,h1,h2,h4,h4',h5⟩
 |d+1,i,k+1,H,e,c,b,hi',hk,hu,h1,h2,h3,h4,h4',h5=>by
  have A:i<n:=by omega
  have D:=W i A;obtain⟨v,o⟩:∃v,v=V / 4294967296^i%4294967296:=⟨_,rfl⟩;obtain⟨a,y⟩:∃a,a=U / 4294967296^i%4294967296:=⟨_,rfl⟩;have P:v<4294967296:=by omega
  have a0:a<4294967296:=by omega
  rw[lT,ZI,<-y]at hu;rw[<-o]at D;have C:(low++e).length=j+i:=by rw[Zk,l,h1]
  have ht:=Tc T P (z:=0) (u:=c) (by omega) h3;obtain⟨t,I⟩:∃t,t=q*v+c:=⟨_,rfl⟩;have f2:a%18446744073709551616=a:=Zg (by omega);have f3:q*v%18446744073709551616=q*v:=Zg (by omega);have S:t%18446744073709551616=t:=Zg (by omega);have f6:Xe .i64 (.ofNat (i+1))=.ofNat (i+1):=wrap_i64 (by omega);have f7:(4294967296+a)%18446744073709551616=4294967296+a:=Zg (by omega);have k1:Xe .u64 (.ofNat (4294967296+a)-.ofNat (t%4294967296))=.ofNat (4294967296+a-t%4294967296):=Qd (by omega) (by omega);have X:Xe .u64 (.ofNat (4294967296+a-t%4294967296)-.ofNat b)=.ofNat (4294967296+a-t%4294967296-b):=Qd (by omega) (by omega);obtain⟨s,Q⟩:∃s,s=4294967296+a-t%4294967296-b:=⟨_,rfl⟩;have k3:Xe .u64 (.ofNat 1-.ofNat (s / 4294967296))=.ofNat (1-s / 4294967296):=Qd (by omega) (by decide);have f8:s / 4294967296%18446744073709551616=s / 4294967296:=Zg (by omega);have f9:t / 4294967296%18446744073709551616=t / 4294967296:=Zg (by omega);have J:s%4294967296%4294967296=s%4294967296:=Nat.mod_mod ..;have F:s%4294967296+t%4294967296+b=a+4294967296*(1-s / 4294967296):=by omega
  have O:t / 4294967296<4294967296:=by omega
  have m:=sK h5 I rfl F;have r:=sf h4' o;rw[<-I]at r;obtain⟨g,f,G,x,w,M,g3,g4,g5,g6,g7⟩:=ju B l hn T W d (i+1) k (H.set iu ⟨false,0,1,Wi (low++(e++[s%4294967296])++(dg d (U / 4294967296^(i+1))++hi)),false,tu⟩) (e++[s%4294967296]) (t / 4294967296) (1-s / 4294967296) (by omega) (by omega)
   (QS hu) (by simp[h1]) (h2.snoc (by omega)) O (by omega) r (by rw[NL _ _ h1,SO,SO,<-o,<-y,ZK];exact m)
  rw[List.set_set]at w;refine⟨g,f,G,x,?_,M,g3,g4,g5,g6,g7⟩;rw[<-Zq low e [s%4294967296],<-OE (low++e) _ a (s%4294967296) C]at w;have Y:=X2 (OF (low++e) (dg d (U / 4294967296^(i+1))++hi) a C);have q1:Tz .u64 (.ofNat t) (.ofNat 4294967296)=some (.p (.int .u64 (.ofNat (t / 4294967296)))):=by
   show some (DL.p (.int .u64 (Xe .u64 (.ofNat (t / 4294967296)))))=_;rw[wrap_u64,f9]
  have q2:Tz .u64 (.ofNat s) (.ofNat 4294967296)=some (.p (.int .u64 (.ofNat (s / 4294967296)))):=by
   show some (DL.p (.int .u64 (Xe .u64 (.ofNat (s / 4294967296)))))=_;rw[wrap_u64,f8]
  have q3:U8 .u64 (.ofNat t) (.ofNat 4294967296)=some (.p (.int .u64 (.ofNat (t%4294967296)))):=rfl;have q4:U8 .u64 (.ofNat s) (.ofNat 4294967296)=some (.p (.int .u64 (.ofNat (s%4294967296)))):=rfl;rw[<-Q]at X;have L:(q*v+c)%18446744073709551616=t:=by rw[<-I];exact S
  clear m F r Q ht S I;obtain⟨Z,lK,oD,oS,oR,dS,dD,e1,e2,e3,e4,e5,e6,e7,N,R⟩:=T6;rw[<-e2]at w⊢;rw[N];simp only[Tl,R,Xq,reduceIte,Nat.reduceEqDiff,Nat.reduceLeDiff,Zt,x196_1,B,X5,D,hu,Y,A,f2,f3,f6,f7,J,L,k1,X,k3,q1,q2,q3,q4,WH];exact w
end
end Go.Proofs.YtidginchkjhobaaGreat
namespace Go.Proofs.YtidginchkjhobaaGreat
open Go.Ev Go.Num
theorem aY {B:Xs}(a:Std B){lv:PL}{V:Nat}(b:aV lv V)(n:Nat):X1 B fun E _=>∀i,i<n->E.pure 163 [.one lv,.one (.int .i64 (.ofNat i))]=some (.one (.int .u64 (.ofNat (V / 4294967296^i%4294967296)))):=
 X1.all n fun i _=>by
  have:=Rn a b (Xo V) i;rw[lN]at this;exact this.Xj
theorem ru {B:Xs}(k:Std B){H:List Xz}{iu j n tu:Nat}{lv:PL}{low hi:List Nat}{U V q:Nat}(m:low.length=j)(hn:n<100000000000)(C:0<V)(A:V<4294967296^n)(S:aV lv V)(hU:U<4294967296^(n+1))(G:q<4294967296)
  (hu:H[iu]? =some ⟨false,0,1,Wi (low++(dg (n+1) U++hi)),false,tu⟩):
  ∃Y b,S3 B 196 [.one (.own iu 0 j (n+1)),.one (.p lv),.one (.p (.int .u64 (.ofNat q)))] H (.one (.p (.bool (decide (b=1))))) (H.set iu ⟨false,0,1,Wi (low++(dg (n+1) Y++hi)),false,tu⟩)/\Y<4294967296^(n+1)/\
   (q=U / V->b=0/\Y=U%V)/\(q=U / V+1->b=1/\Y+V=U%V+4294967296^(n+1)):=by
 have key:∀(E:Xa) (K:Nat),n+2<=K->E.mode=md->(∀i,i<n+1->E.pure 163 [.one lv,.one (.int .i64 (.ofNat i))]=some (.one (.int .u64 (.ofNat (V / 4294967296^i%4294967296)))))->
   ∃g d b c,Xb E K 0 [0,1,2,7,8,9] x196_1 K ⟨[(0,.one (.own iu 0 j (n+1))),(1,.one (.p lv)),(2,.one (.p (.int .u64 (.ofNat q)))),(7,.one (.p (.int .u64 (.ofNat 0)))),(8,.one (.p (.int .u64 (.ofNat 0)))),(9,.one (.p (.int .i64 (.ofNat 0))))],H⟩=
    some (.exit 0,⟨g,H.set iu ⟨false,0,1,Wi (low++d++hi),false,tu⟩⟩)/\Xh g 8=some (.one (.p (.int .u64 (.ofNat b))))/\d.length=n+1/\Wz d/\b<=1/\c=q*(V%4294967296^(n+1)) / 4294967296^(n+1)/\val d+q*(V%4294967296^(n+1))=U%4294967296^(n+1)+(c+b)*4294967296^(n+1):=by
  intro E K L e hw;obtain⟨g,d,c,b,g1,g2,v,x,s,y,h⟩:=ju (E:=E) (K:=K) (iu:=iu) (tu:=tu) (low:=low) (hi:=hi) (U:=U) (q:=q) e m (show n+1<1000000000000 by omega) G hw (n+1) 0 K H [] 0 0 (by omega) (by omega)
   (by rw[ZS,Nat.pow_zero,Nat.div_one];exact hu) rfl Wz.nil (by decide) (by decide) (by simp[Nat.mod_one]) (by simp[val,Nat.mod_one])
  exact⟨g,d,b,c,g1,g2,v,x,s,y,h⟩
 have f:q*(V%4294967296^(n+1)) / 4294967296^(n+1)=0:=by
  rw[Zg (YI A (Y5 (by decide) (Nat.lt_succ_self n)))];exact YY (by rw[ZK,ZH];exact Nat.mul_lt_mul'' A G)
 have t:∀Y b,Y<4294967296^(n+1)->b<=1->Y+q*(V%4294967296^(n+1))=U%4294967296^(n+1)+(0+b)*4294967296^(n+1)->∀r a,r<4294967296^(n+1)->a<=1->r+q*(V%4294967296^(n+1))=U%4294967296^(n+1)+(0+a)*4294967296^(n+1)->Y=r/\b=a:=by
  intro Y b I J z r a h4 h5 h6;generalize q*(V%4294967296^(n+1))=w at *;generalize U%4294967296^(n+1)=u at *;generalize 4294967296^(n+1)=p at *;have :b=0\/b=1:=by omega
  have :a=0\/a=1:=by omega
  rcases ‹b=0\/b=1› with rfl|rfl<;>rcases ‹a=0\/a=1› with rfl|rfl<;>simp only[Z8,Y4,ZZ]at z h6<;>first |exact⟨by omega,rfl⟩|(exfalso;omega)
 obtain⟨N,hN⟩:=(aY k S (n+1)).and (k.Xj.and (X1.ge (B:=B) (n+2)));obtain⟨I,J,z⟩:=hN N N (Zh _) (Zh _);obtain⟨T0,o,W,c0,-,-,v,x,s,y,h⟩:=key _ N z J I;rw[y,f]at h;have D:val o<4294967296^(n+1):=by have:=WW x;rwa[v]at this
 have l:=yY C A G hU D f.symm h s;refine⟨val o,W,S3.of (k.Wa _ _ rfl) ((((aY k S (n+1)).and (k.Xj.and (X1.ge (n+2))))).mono fun E K ⟨T,e,L⟩=> ?_),D,l⟩;obtain⟨g,d,b,c,M,k2,O,P,k5,k6,Q⟩:=key E K L e T;rw[k6,f]at Q;have F:val d<4294967296^(n+1):=by have:=WW P;rwa[O]at this
 obtain⟨X,Z⟩:=t _ _ D s h _ _ F k5 Q;rw[X,Z,<-Tx P O rfl,<-Zq];obtain⟨cE,lK,oD,oS,oR,dS,dD,e1,e2,e3,e4,e5,e6,e7,hL,R⟩:=T6;rw[<-e2]at M;simp only[Tl,R,Vm,Xq,reduceIte,Nat.reduceEqDiff,Nat.reduceLeDiff,x196,M,k2]
section
variable {E:Xa}{K:Nat}{iu j n tu:Nat}{lv:PL}{low hi:List Nat}{U V:Nat}
theorem jX (u:E.mode=md)(f:low.length=j)(hn:n<1000000000000)(C:∀i,i<n->E.pure 163 [.one lv,.one (.int .i64 (.ofNat i))]=some (.one (.int .u64 (.ofNat (V / 4294967296^i%4294967296))))):∀(d i k:Nat) (H:List Xz) (b:List Nat) (c:Nat),i+d=n->d<k->
  H[iu]? =some ⟨false,0,1,Wi (low++b++(dg d (U / 4294967296^i)++hi)),false,tu⟩->b.length=i->Wz b->c<=1->val b+c*4294967296^i=U%4294967296^i+V%4294967296^i->
  ∃m e y,Xb E K 0 [0,1,4,5] x197_1 k ⟨[(0,.one (.own iu 0 j n)),(1,.one (.p lv)),(4,.one (.p (.int .u64 (.ofNat c)))),(5,.one (.p (.int .i64 (.ofNat i))))],H⟩=
   some (.exit 0,⟨m,H.set iu ⟨false,0,1,Wi (low++e++hi),false,tu⟩⟩)/\e.length=n/\Wz e/\y<=1/\val e+y*4294967296^n=U%4294967296^n+V%4294967296^n
 |_,_,0,_,_,_,_,h,_,_,_,_,_=>by omega
 |0,i,k+1,H,b,c,hi',_,hu,h1,h2,h3,h4=>by
  obtain rfl:i=n:=by omega
  rw[show dg 0 (U / 4294967296^i)=[]from rfl,ZF]at hu;have :∃m,Xb E K 0 [0,1,4,5] x197_1 (k+1) ⟨[(0,.one (.own iu 0 j i)),(1,.one (.p lv)),(4,.one (.p (.int .u64 (.ofNat c)))),(5,.one (.p (.int .i64 (.ofNat i))))],H⟩=some (.exit 0,⟨m,H⟩)/\True:=by
   apply VE
   ·obtain⟨F,lK,oD,oS,oR,I,G,e1,e2,J,L,M,N,O,A,R⟩:=T6;rw[<-e2,A];simp only[Tl,R,Xq,reduceIte,Nat.reduceEqDiff,x197_1,Zx];rfl
   ·trivial
  obtain⟨m,o,-⟩:=this;exact⟨m,b,c,by rw[Rt hu];exact o,h1,h2,h3,h4⟩
 |d+1,i,k+1,H,b,c,hi',hk,hu,h1,h2,h3,h4=>by
  have s:i<n:=by omega
  have w:=C i s;obtain⟨l,r⟩:∃l,l=V / 4294967296^i%4294967296:=⟨_,rfl⟩;obtain⟨a,q⟩:∃a,a=U / 4294967296^i%4294967296:=⟨_,rfl⟩;have a1:l<4294967296:=by omega
  have a0:a<4294967296:=by omega
  rw[lT,ZI,<-q]at hu;rw[<-r]at w;have v:(low++b).length=j+i:=by rw[Zk,f,h1]
  obtain⟨t,B⟩:∃t,t=a+l+c:=⟨_,rfl⟩;have P:a%18446744073709551616=a:=Zg (by omega);have Q:(a+l)%18446744073709551616=a+l:=Zg (by omega);have S:(a+l+c)%18446744073709551616=t:=by rw[<-B];exact Zg (by omega)
  have T:Xe .i64 (.ofNat (i+1))=.ofNat (i+1):=wrap_i64 (by omega);have W:t / 4294967296%18446744073709551616=t / 4294967296:=Zg (by omega);have z:t%4294967296%4294967296=t%4294967296:=Nat.mod_mod ..;have x:t%4294967296+4294967296*(t / 4294967296)=a+l+c:=by omega
  have g:=uC h4 x;obtain⟨m,e,y,o,X,Y,Z,g6⟩:=jX u f hn C d (i+1) k (H.set iu ⟨false,0,1,Wi (low++(b++[t%4294967296])++(dg d (U / 4294967296^(i+1))++hi)),false,tu⟩) (b++[t%4294967296]) (t / 4294967296) (by omega) (by omega)
   (QS hu) (by simp[h1]) (h2.snoc (by omega)) (by omega) (by rw[NL _ _ h1,SO,SO,<-r,<-q,ZK,ZH _ a];exact g)
  rw[List.set_set]at o;refine⟨m,e,y,?_,X,Y,Z,g6⟩;rw[<-Zq low b [t%4294967296],<-OE (low++b) _ a (t%4294967296) v]at o;have D:=X2 (OF (low++b) (dg d (U / 4294967296^(i+1))++hi) a v);have q2:Tz .u64 (.ofNat t) (.ofNat 4294967296)=some (.p (.int .u64 (.ofNat (t / 4294967296)))):=by
   show some (DL.p (.int .u64 (Xe .u64 (.ofNat (t / 4294967296)))))=_;rw[wrap_u64,W]
  have q4:U8 .u64 (.ofNat t) (.ofNat 4294967296)=some (.p (.int .u64 (.ofNat (t%4294967296)))):=rfl;clear g x B;obtain⟨F,lK,oD,oS,oR,I,G,e1,e2,J,L,M,N,O,A,R⟩:=T6;rw[<-e2]at o⊢;rw[A];simp only[Tl,R,Xq,reduceIte,Nat.reduceEqDiff,Nat.reduceLeDiff,Zt,x197_1,u,X5,w,hu,D,s,P,Q,S,T,z,q2,q4,WH];exact o
end
theorem nu {B:Xs}(d:Std B){H:List Xz}{iu j n tu:Nat}{lv:PL}{low hi:List Nat}{Y V Z:Nat}(a:low.length=j)(J:n<100000000000)(o:V<4294967296^n)(s:aV lv V)(q:Y<4294967296^n)(I:Z<4294967296^n)(h:Y+V=Z+4294967296^n)
  (r:H[iu]? =some ⟨false,0,1,Wi (low++(dg n Y++hi)),false,tu⟩):
  S3 B 197 [.one (.own iu 0 j n),.one (.p lv)] H (.XZ []) (H.set iu ⟨false,0,1,Wi (low++(dg n Z++hi)),false,tu⟩):=by
 refine S3.of (d.Wa _ _ rfl) ((((aY d s n).and (d.Xj.and (X1.ge (n+1))))).mono fun E K ⟨m,e,F⟩=> ?_);obtain⟨t,l,c,g,i,k,D,b⟩:=jX (E:=E) (K:=K) (iu:=iu) (tu:=tu) (low:=low) (hi:=hi) (U:=Y) e a (show n<1000000000000 by omega) m n 0 K H [] 0 (by omega) (by omega)
   (by rw[ZS,Nat.pow_zero,Nat.div_one];exact r) rfl Wz.nil (by decide) (by simp[val,Nat.mod_one])
 rw[Zg q,Zg o,h]at b;have L:val l<4294967296^n:=by have:=WW k;rwa[i]at this
 have f:val l=Z:=by
  generalize 4294967296^n=p at *;have :c=0\/c=1:=by omega
  rcases this with rfl|rfl
  ·rw[Y4]at b;omega
  ·rw[ZZ]at b;omega
 rw[<-f,<-Tx k i rfl,<-Zq];obtain⟨u,M,N,P,O,w,v,e1,e2,x,y,z,A,C,G,R⟩:=T6;rw[<-e2]at g;simp only[Tl,R,Vm,Xq,reduceIte,Nat.reduceEqDiff,Nat.reduceLeDiff,x197,g]
end Go.Proofs.YtidginchkjhobaaGreat
namespace Go.Num
theorem yL {y n w d:Nat}(q:w=y / 4294967296^n)(s:0<w)(t:w<4294967296)(g:d=4294967296 / (w+1)):qa (y*d) (n+1)/\0<d/\d<4294967296:=by
 obtain⟨i,j⟩:=Ty y _ (Sh n);rw[<-q]at i j;have c:=YC 4294967296 (w+1);have o:=ZY 4294967296 (show 0<w+1 by omega);rw[<-g]at c;have b:0<d:=by rw[g];exact Nat.div_pos (by omega) (by omega)
 have h:d<4294967296:=by rw[g];exact Nat.div_lt_self (by decide) (by omega)
 obtain⟨r,p⟩:∃r,r=4294967296%(w+1):=⟨_,rfl⟩;rw[<-p]at c o;have a:4294967296<=2*(w*d):=by
  have e:(w+1)*d=w*d+d:=by rw[ZG,ZZ]
  rw[e]at c;rcases Yj 1 d with hd2|hd2
  ·rcases Yj 1 w with hw2|hw2
   ·have :2*(w-1)<=d*(w-1):=Zp _ hd2;have e2:d*(w-1)+d=w*d:=by
     obtain⟨v,rfl⟩:∃v,w=v+1:=⟨w-1,by omega⟩;rw[Yl,ZG,ZZ,ZH]
    omega
   ·have :w=1:=by omega
    subst this;omega
  ·have :d=1:=by omega
   subst this;omega
 refine⟨⟨?_,?_⟩,b,h⟩
 ·rw[ZK];have k:=Zp d i;have f:=Zp (4294967296^n) a;generalize 4294967296^n=P at *;have m:2*(w*d)*P=2*(w*P*d):=by rw[Yi,YX]
  rw[m]at f;rw[ZH P];omega
 ·rw[ZK];have k:=Yu j b;have f:(w+1)*d<=4294967296:=by omega
  have l:=Zp (4294967296^n) f;rw[YX]at l;rw[ZH (4294967296^n)];exact Z2 k l
end Go.Num
namespace Go.Proofs.YtidginchkjhobaaGreat
open Go.Ev Go.Num
def ff (X V L N i:Nat):List Xz:=[⟨false,0,1,Wi (dg L (X%(V*4294967296^i))),false,177⟩,⟨false,0,1,Wi (List.replicate i 0++dg (N+1-i) (X / (V*4294967296^i))),false,177⟩]
def mf (E:Xa)(lv:PL)(X V L m N j:Nat):Prop:=∃q,E.pure 195 [.one (.Xp (Ub (dg (m+3) (X%(V*4294967296^(j+1)) / 4294967296^j)))),.one lv]=some (.one (.int .u64 (.ofNat q)))/\
 ((q=X%(V*4294967296^(j+1)) / 4294967296^j / V/\E.heap 196 [.one (.own 0 0 j (m+3)),.one (.p lv),.one (.p (.int .u64 (.ofNat q)))] (ff X V L N (j+1))=some (.one (.p (.bool false)),(ff X V L N (j+1)).set 0 ⟨false,0,1,Wi (dg L (X%(V*4294967296^j))),false,177⟩))\/
  (q=X%(V*4294967296^(j+1)) / 4294967296^j / V+1/\∃W,E.heap 196 [.one (.own 0 0 j (m+3)),.one (.p lv),.one (.p (.int .u64 (.ofNat q)))] (ff X V L N (j+1))=some (.one (.p (.bool true)),(ff X V L N (j+1)).set 0 ⟨false,0,1,Wi W,false,177⟩)/\
   E.heap 197 [.one (.own 0 0 j (m+3)),.one (.p lv)] ((ff X V L N (j+1)).set 0 ⟨false,0,1,Wi W,false,177⟩)=some (.XZ [],(ff X V L N (j+1)).set 0 ⟨false,0,1,Wi (dg L (X%(V*4294967296^j))),false,177⟩)))
theorem Bg {B:Xs}(l:Std B){lv:PL}{X V L m N j:Nat}(Q:L=N+(m+3))(R:N<1000000000)(T:m<1000000000)(S:j<N+1)(t:aV lv V)(y:qa V (m+2))(e:0<V)(g:(Xd V).length=m+2):X1 B fun E _=>mf E lv X V L m N j:=by
 have a:=y.2;have c:V<4294967296^(m+3):=YI a (Y5 (by decide) (Nat.lt_succ_self _));obtain⟨A,r,s⟩:=bN (X:=X) (V:=V) (L:=L) (N:=N) (n:=m+2) (j:=j) (by omega) e a;unfold mf;obtain⟨U,v⟩:∃U,U=X%(V*4294967296^(j+1)) / 4294967296^j:=⟨_,rfl⟩;obtain⟨low,w⟩:∃low,low=dg j (X%(V*4294967296^(j+1))):=⟨_,rfl⟩;have d:low.length=j:=by rw[w,X9]
 rw[<-v,<-w]at A r;rw[<-v]at s⊢;have o:U<4294967296^(m+3):=by
  have:=Yu a (show 0<4294967296 by decide);rw[<-ZK]at this;exact YI s this
 have G:(ff X V L N (j+1))[0]? =some ⟨false,0,1,Wi (low++(dg (m+3) U++List.replicate (N-j) 0)),false,177⟩:=by
  show some (Xz.mk false 0 1 (Wi (dg L (X%(V*4294967296^(j+1))))) false 177)=_;rw[A]
 obtain⟨q,x,D,O,P⟩:=we l (lu:=.Xp (Ub (dg (m+3) U))) .Xp t g (by omega) y s (fun i hi=>by
  have :Xd V=dg (m+2) V:=Tx (Xo V) g (Xl V);rw[this,bT hi]) (fun i hi=>bT hi)
 obtain⟨Y,b,h,I,J,M⟩:=ru l (H:=ff X V L N (j+1)) (iu:=0) (n:=m+2) d (by omega) e a t o D G;have F:=ZY U e;rcases Yj q (U / V+1)with hc|hc
 ·have f:q=U / V:=by omega
  obtain⟨k,u⟩:=J f;rw[k,u,<-r]at h;refine(x.Xj.and h.Xj).mono fun E K ⟨e1,e2⟩=>⟨q,e1,.inl ⟨f,?_⟩⟩
  exact e2
 ·have f:q=U / V+1:=by omega
  obtain⟨k,u⟩:=M f;rw[k]at h;have p:((ff X V L N (j+1)).set 0 ⟨false,0,1,Wi (low++(dg (m+2+1) Y++List.replicate (N-j) 0)),false,177⟩)[0]? =some ⟨false,0,1,Wi (low++(dg (m+3) Y++List.replicate (N-j) 0)),false,177⟩:=rfl;have z:=nu l d (show m+3<100000000000 by omega) c t I (YI F c) u p;rw[<-r,List.set_set]at z;exact(x.Xj.and (h.Xj.and z.Xj)).mono fun E K ⟨e1,e2,C⟩=>⟨q,e1,.inr ⟨f,_,e2,C⟩⟩
theorem td {E:Xa}{K:Nat}{lv:PL}{X V L m N d:Nat}(hL:L=N+(m+3))(hN:N<1000000000)(hm:m<1000000000)(f:E.mode=md)(s:0<V)(t:V<4294967296^(m+2))
  (T:∀j,j<N+1->mf E lv X V L m N j):
  ∀(i:Nat),i<=N+1->∀k,i<k->∃g,Xb E K 0 [8,9,10,11,12,13] x185_1 k ⟨[(8,.one (.p (.int .i64 (.ofNat (m+2))))),(9,.one (.p (.int .u64 (.ofNat d)))),(10,.one (.p lv)),(11,.one (.own 0 0 0 L)),(12,.one (.own 1 0 0 (N+1))),(13,.one (.p (.int .i64 (pI i))))],ff X V L N i⟩=some (.exit 0,⟨g,ff X V L N 0⟩)/\
   Xh g 9=some (.one (.p (.int .u64 (.ofNat d))))/\Xh g 11=some (.one (.own 0 0 0 L))/\Xh g 12=some (.one (.own 1 0 0 (N+1)))
 |_,_,0,h=>by omega
 |0,_,k+1,_=>by
  apply VE
  ·obtain⟨Y,lK,oD,oS,oR,dS,Z,e1,e2,e3,e4,e5,e6,e7,e,R⟩:=T6;rw[<-e2,e];simp only[Tl,R,Xq,reduceIte,Nat.reduceEqDiff,x185_1,dU];rfl
  ·simp only[Xm,reduceIte,Nat.reduceEqDiff,and_self]
 |j+1,hj,k+1,hk=>by
  obtain⟨g,w,g2⟩:=td (K:=K) hL hN hm f s t T j (by omega) k (by omega);refine⟨g,?_,g2⟩;obtain⟨y,-,z⟩:=bN (X:=X) (V:=V) (L:=L) (N:=N) (n:=m+2) (j:=j) (by omega) s t;obtain⟨q,x,c⟩:=T j (by omega);have a:=jf (X:=X) (V:=V) (N:=N) (j:=j) (by omega);obtain⟨U,B⟩:∃U,U=X%(V*4294967296^(j+1)) / 4294967296^j:=⟨_,rfl⟩;rw[<-B]at x c a y z;obtain⟨Q,u⟩:∃Q,Q=U / V:=⟨_,rfl⟩;have hQ:Q<4294967296:=by rw[u];exact Yp z
  rw[<-u]at c a;have C:Xe .i64 (.ofNat (j+(m+2)))=.ofNat (j+(m+2)):=wrap_i64 (by omega);have F:Xe .i64 (.ofNat (j+(m+2)+1))=.ofNat (j+(m+2)+1):=wrap_i64 (by omega);have G:Xe .i64 (.ofNat j-.ofNat 1)=pI j:=Uk (by omega);have S:(ff X V L N (j+1))[0]? =some ⟨false,0,1,Wi (dg L (X%(V*4294967296^(j+1)))),false,177⟩:=rfl;have H:WI 1 (Xn (ff X V L N (j+1))) (.own 0 0 0 L) j (some (j+(m+2)+1))=some (.own 0 0 j (m+3),[0]):=by
   rw[Ou (b:=⟨false,0,1,Wi (dg L (X%(V*4294967296^(j+1)))),false,177⟩) rfl (by omega) (by omega) rfl,Z8,show j+(m+2)+1-j=m+3 by omega]
  have P:((Wi (dg L (X%(V*4294967296^(j+1))))).drop j).take (m+3)=Wi (dg (m+3) U):=by
   rw[y,mE,List.drop_left' (X9 _ _),mD,List.take_left' (X9 _ _)]
  have l:j+(m+3)<=L:=by omega
  have I:((ff X V L N (j+1)).set 0 ⟨false,0,1,Wi (dg L (X%(V*4294967296^j))),false,177⟩)[1]? =some ⟨false,0,1,Wi (List.replicate (j+1) 0++dg (N-j) (X / (V*4294967296^(j+1)))),false,177⟩:=by
   show some (Xz.mk false 0 1 (Wi (List.replicate (j+1) 0++dg (N+1-(j+1)) (X / (V*4294967296^(j+1))))) false 177)=_;rw[Nat.add_sub_add_right]
  have J:=X2 (ea 0 j (dg (N-j) (X / (V*4294967296^(j+1)))));have M:((ff X V L N (j+1)).set 0 ⟨false,0,1,Wi (dg L (X%(V*4294967296^j))),false,177⟩).set 1 ⟨false,0,1,Wi (List.replicate j 0++dg (N+1-j) (X / (V*4294967296^j))),false,177⟩=ff X V L N j:=rfl;have O:j<N+1:=by omega
  have o:Q%4294967296=Q:=Zg hQ;have v:Xe .u64 (.ofNat (Q+1)-.ofNat 1)=.ofNat Q:=by rw[TM (by omega),wrap_u64,Yl,Zg (by omega)]
  have r:=X9 L (X%(V*4294967296^(j+1)));generalize dg L (X%(V*4294967296^(j+1)))=A at *;generalize ff X V L N (j+1)=D at *;generalize (D.set 0 ⟨false,0,1,Wi (dg L (X%(V*4294967296^j))),false,177⟩)=D1 at *;generalize ff X V L N j=D2 at *;generalize ff X V L N 0=D3 at *;generalize dg (N-j) (X / (V*4294967296^(j+1)))=l1 at *;generalize dg (N+1-j) (X / (V*4294967296^j))=l2 at *;clear B u y z;obtain⟨Y,lK,oD,oS,oR,dS,Z,e1,e2,e3,e4,e5,e6,e7,e,R⟩:=T6;rw[<-e2]at w⊢;rw[e];rcases c with⟨rfl,c⟩|⟨rfl,W,c,h3⟩
  ·simp only[Tl,R,Vm,Xq,reduceIte,Nat.reduceEqDiff,Nat.reduceLeDiff,Zt,x185_1,ah,f,X5,x,c,C,F,G,H,I,J,O,P,l,o,r,S,Vd,VX,Uf,WH,Ov,a,M];exact w
  ·simp only[Tl,R,Vm,Xq,reduceIte,Nat.reduceEqDiff,Nat.reduceLeDiff,Zt,x185_1,ah,f,X5,x,c,h3,C,F,G,H,I,J,O,P,l,o,v,r,S,Vd,VX,Uf,WH,Ov,a,M];exact w
theorem di {B:Xs}(a:Std B){la lb:PL}{x y:Nat}(F:aV la x)(l:aV lb y)(hx:(Xd x).length<100000000)(hy:(Xd y).length<100000000)(D:0<y):
  ∃q r,Xx B 185 [.one la,.one lb] (.XZ [.one q,.one r])/\aV q (x / y)/\aV r (x%y):=by
 have H:=aF a F l (Xo _) (Xo _) (W0 _) (W0 _) (by omega) (by omega);rw[Xl,Xl]at H;by_cases c:x<y
 ·refine⟨.XC,la,Xx.of (a.Wa _ _ rfl) ((H.Xj.and a.Xj).mono fun E K ⟨o,e⟩=> ?_),?_,?_⟩
  ·simp only[Xm,Xq,reduceIte,Nat.reduceEqDiff,Nat.reduceLeDiff,x185,e,X5,o,SQ,c]
  ·rw[YY c];exact aV.zero
  ·rw[Zg c];exact F
 by_cases h1:(Xd y).length=1
 ·obtain⟨k1,I⟩:=Sb.1 h1;have hi:(Xd y)[0]? =some y:=by rw[Px k1 I];rfl
  have hd:=fa a F (Xo _) (by omega) k1 I;rw[Xl]at hd;have a7:=ZY x D;have hw:=Rv a (m:=x%y) (by omega);have P:y%18446744073709551616=y:=Zg (by omega);refine⟨_,_,Xx.of (a.Wa _ _ rfl) ((H.Xj.and (hd.Xj.and (hw.Xj.and a.Xj))).mono fun E K ⟨o,M,O,e⟩=> ?_),.Xp,.Xp⟩;simp only[Xm,Xq,reduceIte,Nat.reduceEqDiff,Nat.reduceLeDiff,x185,e,X5,o,M,O,SQ,c,l.len,h1,l.idx hi,P]
 have b2:2<=(Xd y).length:=by
  have :(Xd y).length≠0:=by rw[Ne,WV];omega
  omega
 obtain⟨m,hm⟩:∃m,(Xd y).length=m+2:=⟨(Xd y).length-2,by omega⟩;obtain⟨t1,t2,t3,t4⟩:=mR (n:=m+1) hm;obtain⟨w,ew⟩:∃w,w=y / 4294967296^(m+1):=⟨_,rfl⟩;rw[<-ew]at t1 t2 t3;obtain⟨d,ed⟩:∃d,d=4294967296 / (w+1):=⟨_,rfl⟩;obtain⟨U,b,A⟩:=yL ew t2 t3 ed;have b1:=XM (Nat.le_of_not_lt c);obtain⟨N,eN⟩:∃N,(Xd x).length=N+(m+2):=⟨(Xd x).length-(m+2),by omega⟩;obtain⟨V,f⟩:∃V,V=y*d:=⟨_,rfl⟩;obtain⟨X,s⟩:∃X,X=x*d:=⟨_,rfl⟩;have g:0<V:=by rw[f];exact Yn D b
 rw[<-f]at U;have i:=U.2;have k:=Te x;rw[eN]at k;have u:X<V*4294967296^(N+1):=by
  have J:X<4294967296^(N+(m+2))*d:=by rw[s];exact Yu k b
  have G:=Zp (d*4294967296^(N+1)) t4;have a4:4294967296^(m+1)*(d*4294967296^(N+1))=4294967296^(N+(m+2))*d:=by
   rw[Nat.mul_left_comm,<-Y2,show m+1+(N+1)=N+(m+2)by omega,ZH]
  rw[a4,<-Yi,<-f]at G;exact Z2 J G
 have W:X<4294967296^(N+(m+2)+1):=by
  rw[s,ZK];exact Nat.mul_lt_mul'' k A
 have a5:(Xd V).length=m+2:=by
  have a1:=Vo i;have J:y<=V:=by rw[f];exact YK _ b
  have G:=XM J;rw[hm]at G;omega
 have C:X / V=x / y:=by rw[s,f,Nat.mul_div_mul_right _ _ b]
 have a0:X%V / d=x%y:=by rw[s,f,Nat.mul_mod_mul_right,Nat.mul_div_cancel _ b]
 have v:X%V<4294967296^(m+2):=YI (ZY _ g) i;have z:X%V<4294967296^(N+(m+2)+1):=Z2 v (Vj (by omega));have a6:=Rv a (m:=d) (by omega);have a9:(Xd d).length<=2:=Py (by omega);have c1:=bg a l (lb:=.Xp (Ub (Xd d))) .Xp (Xo _) (Xo _) (by omega);have c2:=bg a F (lb:=.Xp (Ub (Xd d))) .Xp (Xo _) (Xo _) (by omega);rw[Xl,Xl,<-f]at c1;rw[Xl,Xl,<-s]at c2;have c3:X1 B fun E _=>∀j,j<N+1->mf E (.Xp (Ub (Xd V))) X V (N+(m+3)) m N j:=X1.all (N+1) fun j hj=>Bg a rfl (by omega) (by omega) hj .Xp U g a5
 have c4:=Se a (ws:=dg (N+1) (x / y)) (by rw[X9];omega);rw[TJ (by rw[<-C];exact Yp u)]at c4;have c5:=Se a (ws:=dg (N+(m+2)+1) (X%V)) (by rw[X9];omega);rw[TJ z]at c5;have c6:=fa a (la:=.Xp (Ub (Xd (X%V)))) .Xp (Xo _) (by have:=Vo v;omega) b A;rw[Xl,a0]at c6;refine⟨_,_,Xx.of (a.Wa _ _ rfl) ((H.Xj.and (a6.Xj.and (c1.Xj.and (c2.Xj.and (c3.and (c4.Xj.and (c5.Xj.and (c6.Xj.and (a.Xj.and (X1.ge (N+2))))))))))).mono fun E K ⟨o,M,O,e6,e7,e8,e9,L,e,hK⟩=> ?_),.Xp,.Xp⟩;obtain⟨T',t,g2,g3,g4⟩:=td (K:=K) (d:=d) rfl (by omega) (by omega) e g i e7 (N+1) (Zh _) K (by omega);have d1:ff X V (N+(m+3)) N (N+1)=[⟨false,0,1,Wi (dg (N+(m+2)+1) X),false,177⟩,⟨false,0,1,Wi (List.replicate (N+1) 0),false,177⟩]:=by
  unfold ff;rw[Zg u,YV,show dg 0 (X / (V*4294967296^(N+1)))=[]from rfl,ZS];rfl
 have d2:ff X V (N+(m+3)) N 0=[⟨false,0,1,Wi (dg (N+(m+3)) (X%V)),false,177⟩,⟨false,0,1,Wi (dg (N+1) (X / V)),false,177⟩]:=by
  unfold ff;rw[Nat.pow_zero,ZX];rfl
 rw[d1,d2,C]at t;have f6:(Int.ofNat N:Int)=pI (N+1):=rfl;rw[<-f6]at t;have z1:N+(m+3)=N+(m+2)+1:=rfl;rw[z1]at t g3;have P:Xe .i64 (.ofNat (m+2)-.ofNat 1)=.ofNat (m+1):=by rw[Wj (by omega) (by omega)];rfl
 have f2:Xe .i64 (.ofNat (N+(m+2))-.ofNat (m+2))=.ofNat N:=by rw[Wj (by omega) (by omega),Yl]
 have f3:Xe .i64 (.ofNat (N+1))=.ofNat (N+1):=wrap_i64 (by omega);have f4:4*(N+1)<=lim:=by unfold lim;omega
 have f5:N+1<=9223372036854775807:=by omega
 have f7:Xe .i64 (.ofNat (N+(m+2)+1))=.ofNat (N+(m+2)+1):=wrap_i64 (by omega);have f8:4*(N+(m+2)+1)<=lim:=by unfold lim;omega
 have f9:N+(m+2)+1<=9223372036854775807:=by omega
 have Q:w%18446744073709551616=w:=Zg (by omega);have S:(w+1)%18446744073709551616=w+1:=Zg (by omega);have T:Tz .u64 (.ofNat 4294967296) (.ofNat (w+1))=some (.p (.int .u64 (.ofNat d))):=by
  show some (DL.p (.int .u64 (Xe .u64 (.ofNat (4294967296 / (w+1))))))=_;rw[<-ed,wrap_u64,Zg (by omega)]
 have n1:¬m+2=1:=by omega
 have Z:Ob 0 1 0 0 0 (N+(m+2)+1) ⟨false,0,1,Wi (List.replicate (N+(m+2)+1) 0),false,177⟩ (Wi (Xd X)) []=some ⟨.one (.p (.int .i64 (.ofNat (Nat.min (N+(m+2)+1) (Wi (Xd X)).length)))),[],[(0,⟨false,0,1,Wi (dg (N+(m+2)+1) X),false,177⟩)],[0]⟩:=by
  have b0:=Vo W;have e1:dg (N+(m+2)+1) X=Xd X++List.replicate (N+(m+2)+1-(Xd X).length) 0:=by
   refine(Tx (fun q hq=> ?_) (by simp;omega) ?_).symm
   ·rcases Yc.1 hq with h|h
    ·exact Xo X q h
    ·exact Wz.replicate _ q h
   ·rw[QN,Xl,VO,Nat.mul_zero,Yk]
  have e2:(Wi (List.replicate (N+(m+2)+1) 0)).length=N+(m+2)+1:=by rw[Vd];simp
  simp only[Ob,e2,uA,Z8,RK (Zh _),YO,Bool.and_true,cond_true,List.take_zero,ZF,show Nat.beq 0 0=true from rfl,show Nat.beq 1 1=true from rfl,Bool.true_or];rw[show(Wi (Xd X)).take (N+(m+2)+1)=Wi (Xd X)from Zd (by rw[Vd];omega),Vd,show Nat.min (N+(m+2)+1) (Xd X).length=(Xd X).length from Nat.min_eq_right (by omega),mE,List.drop_replicate,e1];simp[Wi]
 have Y:∀h,Wp h (.p (.Xp (Ub (Xd X))))=some (Wi (Xd X),[]):=fun h=>by
  show some ((Ub (Xd X)).map (·.map DL.p),[])=_;rw[sA]
 obtain⟨cE,lK,oD,oS,oR,dS,dD,k1,I,k3,k4,k5,k6,k7,a8,R⟩:=T6;rw[<-I]at t;simp(decide:=true)only[Tl,R,Vm,Xq,reduceIte,Nat.reduceAdd,x185,e,X5,o,M,O,e6,e8,e9,L,SQ,c,F.len,l.len,hm,eN,l.idx t1,P,f2,f3,f4,f5,f7,f8,f9,Q,S,T,n1,Y,Z,Zh,U0,t,g2,g3,g4,Vd,X9,VX,Uf,U5 _ (Y0 (X9 (N+1) (x / y))),U5 _ (Y0 (X9 (N+(m+2)+1) (X%V)))]
def hJ (z:Int):Prop:=(Xd z.natAbs).length<100000000
theorem hJ.sm {z:Int}(h:hJ z):Sm z:=by unfold hJ at h;unfold Sm;omega
theorem pb {B:Xs}(d:Std B):∀(y x:Nat) (u v:PL),aV u x->aV v y->(Xd x).length<100000000->(Xd y).length<100000000->
  ∃(g:Bool) (r:PL),aV r (Nat.gcd x y)/\X1 B fun E K=>∀(k:Nat),y<k->
   ∃j,Xb E K 0 [0,1] x161_1 k ⟨[(0,.one (.p u)),(1,.one (.p v))],[]⟩=
    (bif g then some (.ret,⟨j,[]⟩)else some (.exit 0,⟨j,[]⟩))/\(g=true->Xh j 4=some (.one (.p r)))/\(g=false->Xh j 0=some (.one (.p r))):=by
 intro y;induction y using Nat.strongRecOn with
 |ind y ih=>
  intro x u v l i hx A;rcases Yh y with h0|h0
  ·subst h0;refine⟨false,u,by rw[Nat.gcd_zero_right];exact l,X1.of fun K n k H=> ?_⟩;obtain⟨k,rfl⟩:∃o,k=o+1:=⟨k-1,by omega⟩;have c:=i.len;rw[WU]at c;apply VE
   ·obtain⟨D,S,T,V,U,G,F,L,s,M,N,O,P,Q,a,R⟩:=T6;rw[<-s,a];simp only[Tl,R,Xq,reduceIte,Nat.reduceEqDiff,x161_1,c,Zx];rfl
   ·simp only[Xm,reduceIte,Nat.reduceEqDiff,forall_const,Zz,false_implies,and_self]
  have f:0<(Xd y).length:=by
   have :(Xd y).length≠0:=by rw[Ne,WV];omega
   omega
  by_cases e:(Xd x).length<=2/\(Xd y).length<=2
  ·have v1:=cK d l (Xo x) e.1;have v2:=cK d i (Xo y) e.2;rw[Xl]at v1 v2;have W:=Fk e.1;have m:=Fk e.2;have hg:Nat.gcd x y<18446744073709551616:=Z6 (Nat.gcd_le_right x h0) m;have v3:=np d W m;have v4:=Rv d hg;have t:=e.1;have C:=e.2;refine⟨true,.Xp (Ub (Xd (Nat.gcd x y))),.Xp,(v1.Xj.and (v2.Xj.and (v3.Xj.and (v4.Xj.and d.Xj)))).mono fun E K ⟨e1,e2,Z,e4,b⟩ k H=> ?_⟩;obtain⟨k,rfl⟩:∃o,k=o+1:=⟨k-1,by omega⟩;apply VE
   ·obtain⟨D,S,T,V,U,G,F,L,s,M,N,O,P,Q,a,R⟩:=T6;rw[<-s,a];simp only[Tl,R,Xq,reduceIte,Nat.reduceEqDiff,x161_1,l.len,i.len,f,t,C,b,X5,e1,e2,Z,e4];rfl
   ·simp only[Xm,reduceIte,Nat.reduceEqDiff,Bool.true_eq_false,false_implies,forall_const,and_self]
  ·obtain⟨q,r,X,d2,Y⟩:=di d l i hx A h0;have I:=ZY x h0;have z:(Xd (x%y)).length<100000000:=Z6 (XM (Nat.le_of_lt I)) A;obtain⟨rt,r2,J,i3⟩:=ih (x%y) I y v r i Y A z;have eg:Nat.gcd x y=Nat.gcd y (x%y):=by rw[Nat.gcd_comm,Nat.gcd_rec,Nat.gcd_comm]
   rw[<-eg]at J;refine⟨rt,r2,J,(X.Xj.and (i3.and d.Xj)).mono fun E K ⟨e1,e2,b⟩ k H=> ?_⟩;obtain⟨k,rfl⟩:∃o,k=o+1:=⟨k-1,by omega⟩;obtain⟨j,w,g2⟩:=e2 k (by omega);refine⟨j,?_,g2⟩;obtain⟨D,S,T,V,U,G,F,L,s,M,N,O,P,Q,a,R⟩:=T6;rw[<-s]at w⊢;rw[a];by_cases t:(Xd x).length<=2
   ·have C:¬(Xd y).length<=2:=fun h=>e ⟨t,h⟩
    simp only[Tl,R,Xq,reduceIte,Nat.reduceEqDiff,x161_1,l.len,i.len,f,t,C,b,X5,e1];exact w
   ·simp only[Tl,R,Xq,reduceIte,Nat.reduceEqDiff,x161_1,l.len,i.len,f,t,b,X5,e1];exact w
theorem ye {B:Xs}(a:Std B){c d:List PL}{x y:Int}(u:Ta c x)(v:Ta d y)(o:hJ x)(p:hJ y):∃e,Xx B 123 [.agg c,.agg d] (.agg e)/\Ta e (Nat.gcd x.natAbs y.natAbs):=by
 obtain⟨m,rfl,w⟩:=u;obtain⟨n,rfl,A⟩:=v;unfold hJ at o p;obtain⟨G,r,C,D⟩:=pb a y.natAbs x.natAbs m n w A o p;have j:(Xd (Nat.gcd x.natAbs y.natAbs)).length<1000000000000:=by
  rcases Yh y.natAbs with h|h
  ·rw[h,Nat.gcd_zero_right];omega
  ·have:=XM (Nat.gcd_le_right x.natAbs h);omega
 have q:Xx B 161 [.one m,.one n] (.one r):=by
  refine Xx.of (a.Wa _ _ rfl) ((D.and (a.Xj.and (X1.ge (y.natAbs+1)))).mono fun E K ⟨e1,z,M⟩=> ?_);obtain⟨H,b,g,i⟩:=e1 K (by omega);obtain⟨I,U,V,X,W,L,J,N,F,O,P,Q,S,T,t,R⟩:=T6;rw[<-F]at b;cases G with
  |true=>
   replace g:=g rfl
   rw[cond_true]at b;simp only[Tl,R,Xq,reduceIte,Nat.reduceEqDiff,Nat.reduceLeDiff,x161,b,g]
  |false=>
   replace i:=i rfl
   rw[cond_false]at b;simp only[Tl,R,Xq,reduceIte,Nat.reduceEqDiff,Nat.reduceLeDiff,x161,b,i]
 obtain⟨e,s,f⟩:=VM a false C (Xo _) j;rw[Xl]at f
 replace f:Ta e (Nat.gcd x.natAbs y.natAbs):=by simpa using f
 refine⟨e,Xx.of (a.Wa _ _ rfl) ((q.Xj.and (s.Xj.and a.Xj)).mono fun E K ⟨e1,e2,k⟩=> ?_),f⟩;obtain⟨l,rfl,-⟩:=f;simp(decide:=true)only[Xm,Xq,reduceIte,Nat.reduceAdd,x123,k,X5,e1,e2]
theorem wS {B:Xs}(a:Std B){l:PL}{x:Nat}(s:aV l x)(b:(Xd x).length<100000000):Xx B 126 [.one l,.one (.Xp [[.int .u32 (.ofNat 1)]])] (.one (.Xp (Ub (Xd (x+1))))):=by
 have h:=jZ a s (lb:=.Xp (Ub [1])) .Xp (Xo x) (Wz.mk (by decide) Wz.nil) (by omega) (by decide);rw[Xl]at h;exact h
theorem nA {B:Xs}(b:Std B){c d:List PL}{x y:Int}(V:Ta c x)(W:Ta d y)(G:hJ x)(H:hJ y)(I:y≠0):∃e f,Xx B 162 [.agg c,.agg d] (.XZ [.agg e,.agg f,.one (.int .i64 (.ofNat 0))])/\Ta e (x / y)/\Ta f (x%y):=by
 obtain⟨m,rfl,X⟩:=V;obtain⟨n,rfl,t⟩:=W;unfold hJ at G H;have u:0<y.natAbs:=by omega
 have o:(Xd y.natAbs).length≠0:=by rw[Ne,WV];omega
 obtain⟨q,r,L,M,z⟩:=di b X t G H u;obtain⟨e1,e2⟩:=dh x I;have N:=ZY x.natAbs u;have lq:(Xd (x.natAbs / y.natAbs)).length<100000000:=Z6 (XM (Nat.div_le_self ..)) G;have lr:(Xd (x.natAbs%y.natAbs)).length<100000000:=Z6 (XM (Nat.le_of_lt N)) H;by_cases g:x<0/\0<x.natAbs%y.natAbs
 ·have s1:=wS b M lq;have O:=bh b t z (Xo _) (Xo _) (XM (Nat.le_of_lt N)) (by omega) (by rw[Xl,Xl];omega);rw[Xl,Xl]at O;simp only[if_pos g]at e1 e2;have l1:(Xd (x.natAbs / y.natAbs+1)).length<1000000000000:=by
   have:=Uw (x.natAbs / y.natAbs) 1;rw[Sb.2 (by decide:0<1/\1<4294967296)]at this;omega
  have l2:(Xd (y.natAbs-x.natAbs%y.natAbs)).length<1000000000000:=by
   have:=XM (Nat.sub_le y.natAbs (x.natAbs%y.natAbs));omega
  obtain⟨e,C,h⟩:=VM b (decide (x<0)!=decide (y<0)) (l:=.Xp (Ub (Xd (x.natAbs / y.natAbs+1)))) .Xp (Xo _) l1;obtain⟨f,D,a⟩:=VM b false (l:=.Xp (Ub (Xd (y.natAbs-x.natAbs%y.natAbs)))) .Xp (Xo _) l2;rw[Xl]at h a;rw[<-e1]at h
  replace a:Ta f (x%y):=by rw[e2];simpa using a
  have p:((decide (x<0)==decide (y<0))!=true)=(decide (x<0)!=decide (y<0)):=by cases decide (x<0)<;>cases decide (y<0)<;>rfl
  obtain⟨z1,z2,A⟩:=h.len;obtain⟨z3,z4,k⟩:=a.len;subst A k;have s:=g.1;have J:0<(Xd (x.natAbs%y.natAbs)).length:=by
   have :(Xd (x.natAbs%y.natAbs)).length≠0:=by rw[Ne,WV];omega
   omega
  refine⟨_,_,Xx.of (b.Wa _ _ rfl) ((L.Xj.and (s1.Xj.and (O.Xj.and (C.Xj.and (D.Xj.and b.Xj))))).mono fun E K ⟨v,P,Q,j,w,i⟩=> ?_),h,a⟩;simp only[s,decide_true]at j p;obtain⟨S,lK,oD,oS,oR,U,T,Y,Z,k3,k4,k5,k6,k7,F,R⟩:=T6;simp(decide:=true)only[Tl,R,Xq,reduceIte,Nat.reduceAdd,x162,i,X5,v,P,Q,j,w,t.len,o,s,J,z.len,p]
 ·obtain⟨e,C,h⟩:=VM b (decide (x<0)!=decide (y<0)) M (Xo _) (by omega);obtain⟨f,D,a⟩:=VM b false z (Xo _) (by omega);simp only[if_neg g]at e1 e2;rw[Xl]at h a;rw[<-e1]at h
  replace a:Ta f (x%y):=by rw[e2];simpa using a
  have p:((decide (x<0)==decide (y<0))!=true)=(decide (x<0)!=decide (y<0)):=by cases decide (x<0)<;>cases decide (y<0)<;>rfl
  obtain⟨z1,z2,A⟩:=h.len;obtain⟨z3,z4,k⟩:=a.len;subst A k;refine⟨_,_,Xx.of (b.Wa _ _ rfl) ((L.Xj.and (C.Xj.and (D.Xj.and b.Xj))).mono fun E K ⟨v,j,w,i⟩=> ?_),h,a⟩;obtain⟨S,lK,oD,oS,oR,U,T,Y,Z,k3,k4,k5,k6,k7,F,R⟩:=T6;by_cases s:x<0
  ·have J:¬0<(Xd (x.natAbs%y.natAbs)).length:=by
    have :(Xd (x.natAbs%y.natAbs)).length=0:=by rw[WV];omega
    omega
   simp only[s,decide_true]at j p;simp(decide:=true)only[Tl,R,Xq,reduceIte,Nat.reduceAdd,x162,i,X5,v,j,w,t.len,o,s,J,z.len,p]
  ·simp only[s,decide_false]at j p;simp(decide:=true)only[Tl,R,Xq,reduceIte,Nat.reduceAdd,x162,i,X5,v,j,w,t.len,o,s,p]
theorem OK {B:Xs}(a:Std B){c d:List PL}{x y:Int}(i:Ta c x)(j:Ta d y)(r:hJ x)(s:hJ y)(g:y≠0):∃e,Xx B 125 [.agg c,.agg d] (.agg e)/\Ta e (x / y):=by
 obtain⟨e,f,p,h,q⟩:=nA a i j r s g;obtain⟨t,u,l⟩:=i.len;obtain⟨v,w,m⟩:=j.len;obtain⟨e1,e2,n⟩:=h.len;obtain⟨z,A,o⟩:=q.len;subst l m n o;refine⟨_,Xx.of (a.Wa _ _ rfl) ((p.Xj.and a.Xj).mono fun E K ⟨k,b⟩=> ?_),h⟩;simp(decide:=true)only[Xm,Xq,reduceIte,Nat.reduceAdd,x125,b,X5,k]
theorem ko {a b:Nat}{k:Nat}(c:0<b)(h:(Xd b).length<k):(Xd (Nat.gcd a b)).length<k:=Z6 (XM (Nat.gcd_le_right a c)) h
theorem PF {B:Xs}(a:Std B){c d:List PL}{n k:Int}(t:Ta c n)(p:Ta d k)(D:hJ n)(q:hJ k)(h:k≠0):∃e,Xx B 74 [.agg c,.agg d] (.agg e)/\RP e (Rat.divInt n k):=by
 obtain⟨g,M,u⟩:=ye a t p D q;have s:=bB a p;have r:0<k.natAbs:=by omega
 have b:hJ (Nat.gcd n.natAbs k.natAbs:Nat):=by unfold hJ at q⊢;rw[Z3];exact ko r q
 have T:0<Nat.gcd n.natAbs k.natAbs:=Nat.gcd_pos_of_pos_right _ r;have O:((Nat.gcd n.natAbs k.natAbs:Nat):Int) ∣ n:=Int.ofNat_dvd_left.2 (Nat.gcd_dvd_left ..);have N:((Nat.gcd n.natAbs k.natAbs:Nat):Int) ∣ k:=Int.ofNat_dvd_left.2 (Nat.gcd_dvd_right ..);have L:(Rat.divInt n k).num=k.sign*n / ((Nat.gcd n.natAbs k.natAbs:Nat):Int):=by
  rw[Rat.num_divInt];congr 2;exact Nat.gcd_comm ..
 have J:((Rat.divInt n k).den:Int)=(k.natAbs:Int) / ((Nat.gcd n.natAbs k.natAbs:Nat):Int):=by
  rw[Rat.den_divInt,if_neg h,<-Int.natCast_ediv];congr 2;exact Nat.gcd_comm ..
 obtain⟨U,V,G⟩:=t.len;obtain⟨W,X,H⟩:=p.len;obtain⟨Z,g2,I⟩:=u.len;rcases Int.lt_or_lt_of_ne h with hs|hs
 ·obtain⟨Y,S,m⟩:=xZ a u b.sm;have i:hJ (-((Nat.gcd n.natAbs k.natAbs:Nat):Int)):=by unfold hJ at b⊢;rw[Int.natAbs_neg];exact b
  obtain⟨e,A,j⟩:=OK a t m D i (by omega);obtain⟨f,C,l⟩:=OK a p m q i (by omega);rw[show n / -((Nat.gcd n.natAbs k.natAbs:Nat):Int)=(Rat.divInt n k).num by rw[L,Int.sign_eq_neg_one_of_neg hs,Int.neg_mul,Int.one_mul,Int.ediv_neg,Int.neg_ediv_of_dvd O]]at j;rw[show k / -((Nat.gcd n.natAbs k.natAbs:Nat):Int)=((Rat.divInt n k).den:Int)by rw[J,show(k.natAbs:Int)= -k by omega,Int.ediv_neg,Int.neg_ediv_of_dvd N]]at l;obtain⟨e1,e2,x⟩:=j.len;obtain⟨Q,R,y⟩:=l.len;obtain⟨g3,g4,z⟩:=m.len;subst G H I x y z;have F:kH k=.negSucc 0:=by unfold kH;rw[if_neg h,if_pos hs]
  rw[F]at s;refine⟨_,Xx.of (a.Wa _ _ rfl) ((M.Xj.and (s.Xj.and (A.Xj.and (C.Xj.and (S.Xj.and a.Xj))))).mono fun E K ⟨e1,e2,v,w,P,o⟩=> ?_),⟨_,_,_,_,rfl,j,l⟩⟩;simp(decide:=true)only[Xm,Xq,reduceIte,Nat.reduceAdd,x74,o,X5,e1,e2,v,w,P]
 ·obtain⟨e,A,j⟩:=OK a t u D b (by omega);obtain⟨f,C,l⟩:=OK a p u q b (by omega);rw[show n / ((Nat.gcd n.natAbs k.natAbs:Nat):Int)=(Rat.divInt n k).num by rw[L,Int.sign_eq_one_of_pos hs,Int.one_mul]]at j;rw[show k / ((Nat.gcd n.natAbs k.natAbs:Nat):Int)=((Rat.divInt n k).den:Int)by rw[J,show(k.natAbs:Int)=k by omega]]at l;obtain⟨e1,e2,x⟩:=j.len;obtain⟨Q,R,y⟩:=l.len;subst G H I x y;have F:kH k=.ofNat 1:=by unfold kH;rw[if_neg h,if_neg (by omega)]
  rw[F]at s;refine⟨_,Xx.of (a.Wa _ _ rfl) ((M.Xj.and (s.Xj.and (A.Xj.and (C.Xj.and a.Xj)))).mono fun E K ⟨e1,e2,v,w,o⟩=> ?_),⟨_,_,_,_,rfl,j,l⟩⟩;simp(decide:=true)only[Xm,Xq,reduceIte,Nat.reduceAdd,x74,o,X5,e1,e2,v,w]
theorem Q2 {x y:Int}{a b:Nat}(c:(Xd x.natAbs).length<a)(d:(Xd y.natAbs).length<b):(Xd (x*y).natAbs).length<a+b:=by
 rw[Yf];have:=Uv x.natAbs y.natAbs;omega
theorem Sq.vJ {x:Rat}(h:Sq x):(Xd x.num.natAbs).length<10000000:=h.1
theorem Sq.o7 {x:Rat}(h:Sq x):(Xd (x.den:Int).natAbs).length<10000000:=by rw[Z3];exact h.2
theorem eM {x:Int}(h:(Xd x.natAbs).length<100000000):hJ x:=h
theorem De {B:Xs}(a:Std B){c d:List PL}{x y:Rat}(M:RP c x)(N:RP d y)(b:Sq x)(f:Sq y):∃e,Xx B 36 [.agg c,.agg d] (.agg e)/\RP e (x+y):=by
 obtain⟨n1,Y,n2,Z,rfl,i,g⟩:=M;obtain⟨n3,m3,n4,m4,rfl,j,h⟩:=N;obtain⟨p,H,n⟩:=Rw a i h b.num f.den;obtain⟨q,I,o⟩:=Rw a j g f.num b.den;obtain⟨r,J,t⟩:=Rw a g h b.den f.den;have s1:=Q2 b.vJ f.o7;have s2:=Q2 f.vJ b.o7;have s3:=Q2 b.o7 f.o7;obtain⟨s,L,u⟩:=yo a n o (by unfold Sm;omega) (by unfold Sm;omega);have S:hJ (x.num*y.den+y.num*x.den):=by
  unfold hJ;have m:=XM (Int.natAbs_add_le (x.num*y.den) (y.num*x.den));have X:=Uw (x.num*y.den).natAbs (y.num*x.den).natAbs;omega
 have P:(x.den:Int)*y.den≠0:=Int.mul_ne_zero (by have:=x.den_nz;omega) (by have:=y.den_nz;omega);obtain⟨e,m,k⟩:=PF a u t S (eM (by omega)) P;rw[<-Int.natCast_mul,Rat.divInt_ofNat,<-Rat.add_def']at k;obtain⟨p1,p2,C⟩:=n.len;obtain⟨q1,q2,D⟩:=o.len;obtain⟨r1,r2,F⟩:=t.len;obtain⟨Q,R,G⟩:=u.len;have l:=k;obtain⟨T,U,V,W,A,-,-⟩:=l;subst C D F G A;refine⟨_,Xx.of (a.Wa _ _ rfl) ((H.Xj.and (I.Xj.and (J.Xj.and (L.Xj.and (m.Xj.and a.Xj))))).mono fun E K ⟨e1,e2,v,w,z,O⟩=> ?_),k⟩;simp(decide:=true)only[Xm,Xq,reduceIte,Nat.reduceAdd,x36,O,X5,e1,e2,v,w,z]
theorem Dc {B:Xs}(a:Std B){c d:List PL}{x y:Rat}(A:RP c x)(C:RP d y)(b:Sq x)(f:Sq y):∃e,Xx B 91 [.agg c,.agg d] (.agg e)/\RP e (x*y):=by
 obtain⟨P,L,Q,M,rfl,g,h⟩:=A;obtain⟨R,N,S,O,rfl,i,j⟩:=C;obtain⟨p,v,m⟩:=Rw a g i b.num f.num;obtain⟨r,w,n⟩:=Rw a h j b.den f.den;have X:=Q2 b.vJ f.vJ;have Y:=Q2 b.o7 f.o7;have F:(x.den:Int)*y.den≠0:=Int.mul_ne_zero (by have:=x.den_nz;omega) (by have:=y.den_nz;omega);obtain⟨e,z,k⟩:=PF a m n (eM (by omega)) (eM (by omega)) F;rw[<-Int.natCast_mul,Rat.divInt_ofNat,<-Rat.mul_def']at k;obtain⟨T,U,t⟩:=m.len;obtain⟨V,W,u⟩:=n.len;have l:=k;obtain⟨G,H,I,J,s,-,-⟩:=l;subst t u s;refine⟨_,Xx.of (a.Wa _ _ rfl) ((v.Xj.and (w.Xj.and (z.Xj.and a.Xj))).mono fun E K ⟨e1,o,q,D⟩=> ?_),k⟩;simp(decide:=true)only[Xm,Xq,reduceIte,Nat.reduceAdd,x91,D,X5,e1,o,q]
theorem kS {B:Xs}(a:Std B){c:List PL}{x:Rat}(e:RP c x):Xx B 37 [.agg c] (.one (.int .i64 (kH x.num))):=by
 obtain⟨j,h,k,i,rfl,b,f⟩:=e;have d:=bB a b;refine Xx.of (a.Wa _ _ rfl) ((d.Xj.and a.Xj).mono fun E K ⟨e1,g⟩=> ?_);simp(decide:=true)only[Xm,Xq,reduceIte,Nat.reduceAdd,x37,g,X5,e1]
theorem Db {B:Xs}(b:Std B){c d:List PL}{n k:Int}(h:Ta c n)(f:Ta d k)(s:hJ n)(q:hJ k)(a:k≠0):∃e,Xx B 167 [.agg c,.agg d] (.XZ [.agg e,.one (.int .i64 (.ofNat 0))])/\RP e (Rat.divInt n k):=by
 obtain⟨e,o,i⟩:=PF b h f s q a;have p:=bB b f;have g:=i;obtain⟨u,v,w,x,m,-,-⟩:=g;obtain⟨y,z,j⟩:=h.len;obtain⟨A,C,l⟩:=f.len;subst j l m;have t:Pc (kH k) (.ofNat 0)=false:=by
  unfold kH;rw[if_neg a];split<;>rfl
 refine⟨_,Xx.of (b.Wa _ _ rfl) ((o.Xj.and (p.Xj.and b.Xj)).mono fun E K ⟨e1,e2,r⟩=> ?_),i⟩;simp(decide:=true)only[Xm,Xq,reduceIte,Nat.reduceAdd,x167,r,X5,e1,e2,t]
theorem Dd {B:Xs}(a:Std B){c d:List PL}{x y:Rat}(D:RP c x)(F:RP d y)(b:Sq x)(f:Sq y)(h0:y≠0):∃e,Xx B 150 [.agg c,.agg d] (.XZ [.agg e,.one (.int .i64 (.ofNat 0))])/\RP e (x / y):=by
 obtain⟨S,O,T,P,rfl,g,i⟩:=D;obtain⟨U,Q,V,R,rfl,j,k⟩:=F;have n:y.num≠0:=fun h=>h0 (Rat.num_eq_zero.1 h)
 obtain⟨p,z,o⟩:=Rw a g k b.num f.den;obtain⟨r,A,q⟩:=Rw a i j b.den f.num;have s1:=Q2 b.vJ f.o7;have s3:=Q2 b.o7 f.vJ;have I:(x.den:Int)*y.num≠0:=Int.mul_ne_zero (by have:=x.den_nz;omega) n;obtain⟨e,C,l⟩:=Db a o q (eM (by omega)) (eM (by omega)) I;have H:Rat.divInt (x.num*y.den) (x.den*y.num)=x / y:=by
  rw[Rat.div_def,Rat.inv_def,<-Rat.divInt_mul_divInt,Rat.num_divInt_den]
 rw[H]at l;obtain⟨W,X,v⟩:=o.len;obtain⟨Y,Z,w⟩:=q.len;have m:=l;obtain⟨J,L,M,N,u,-,-⟩:=m;subst v w u;refine⟨_,Xx.of (a.Wa _ _ rfl) ((z.Xj.and (A.Xj.and (C.Xj.and a.Xj))).mono fun E K ⟨e1,s,t,G⟩=> ?_),l⟩;simp(decide:=true)only[Xm,Xq,reduceIte,Nat.reduceAdd,x150,G,X5,e1,s,t]
theorem N6 {B:Xs}(h:Std B){x:Int}(i:D5 x):∃c,Xx B 18 [.one (.int .i64 x)] (.agg c)/\RP c (x:Rat):=by
 obtain⟨c,a,n,m,d,e,b,f,g⟩:=qO h i;exact⟨c,a,n,m,d,e,b,f,g⟩
end Go.Proofs.YtidginchkjhobaaGreat
