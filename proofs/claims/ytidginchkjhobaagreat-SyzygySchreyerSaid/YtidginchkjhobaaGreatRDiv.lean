/- The reference's integers: the digit of a quotient, guessed (written by gen_rdiv1.py). -/
import Derived.Test.YtidginchkjhobaaGreatRat
set_option maxHeartbeats 16000000
set_option maxRecDepth 100000
namespace Go.Proofs.YtidginchkjhobaaGreat
open Go.Ev Go.Num
theorem mB {r:Nat}(h:r<4294967296):r*4294967296%18446744073709551616=r*4294967296:=by omega
theorem IJ {r u:Nat}(h:r<4294967296)(a:u<4294967296):(r*4294967296+u)%18446744073709551616=r*4294967296+u:=by omega
section
variable {E:Xa}{K:Nat}{H:V'}{lu lv:PL}{m k:Nat}{U V:P'}{v1 v2 u2 p q r:Nat}
theorem yN (S:Us lu U)(n:Us lv V)(J:m<10000000000000)(f:V[m+1]? =some v1)(z:V[m]? =some v2)(A:U[m]? =some u2)(o:v1<4294967296)(q:v2<4294967296)(b:u2<4294967296)(a:r<4294967296)(L:p<=4294967298)(j:4294967296<=p+1)(i:¬4294967296<=r+v1):Xb E K 0 [0,1,5,7,8] x195_1 (k+1) ⟨[(0,.one (.p lu)),(1,.one (.p lv)),(5,LB (m+2)),(7,LD (p+1)),(8,LD r)],H⟩=Xb E K 0 [0,1,5,7,8] x195_1 k ⟨[(0,.one (.p lu)),(1,.one (.p lv)),(5,LB (m+2)),(7,LD p),(8,LD (r+v1))],H⟩:=by
 have Q:Xe .i64 (.ofNat (m+2)-.ofNat 2)=.ofNat m:=by rw[Wi (by omega) (by omega)];rfl
 have l:Xe .i64 (.ofNat (m+2)-.ofNat 1)=.ofNat (m+1):=by rw[Wi (by omega) (by omega)];rfl
 have c:v1%18446744073709551616=v1:=Zh (by omega);have v:v2%18446744073709551616=v2:=Zh (by omega);have w:u2%18446744073709551616=u2:=Zh (by omega);have e:(r+v1)%18446744073709551616=r+v1:=Zh (by omega);have x:r*4294967296%18446744073709551616=r*4294967296:=mB a;have y:(r*4294967296+u2)%18446744073709551616=r*4294967296+u2:=IJ a b;have d:Xe .u64 (.ofNat (p+1)-.ofNat 1)=.ofNat p:=by rw[PD (by omega),wrap_u64,Yj,Zh (by omega)]
 obtain⟨s,M,N,P,O,u,t,B,g,C,D,F,G,I,h,R⟩:=SH;rw[<-g,h];simp only[TD,R,Xr,reduceIte,Nat.reduceEqDiff,Nat.reduceAdd,x195_1,l,n.idx f,c,d,e,j,i]
theorem uA (T:Us lu U)(o:Us lv V)(L:m<10000000000000)(g:V[m+1]? =some v1)(A:V[m]? =some v2)(B:U[m]? =some u2)(q:v1<4294967296)(s:v2<4294967296)(c:u2<4294967296)(b:r<4294967296)(M:p<=4294967298)(l:4294967296<=p+1)(j:4294967296<=r+v1):∃a,Xb E K 0 [0,1,5,7,8] x195_1 (k+1) ⟨[(0,.one (.p lu)),(1,.one (.p lv)),(5,LB (m+2)),(7,LD (p+1)),(8,LD r)],H⟩=some (.exit 0,⟨a,H⟩)/\Xh a 7=some (LD p):=by
 have S:Xe .i64 (.ofNat (m+2)-.ofNat 2)=.ofNat m:=by rw[Wi (by omega) (by omega)];rfl
 have n:Xe .i64 (.ofNat (m+2)-.ofNat 1)=.ofNat (m+1):=by rw[Wi (by omega) (by omega)];rfl
 have d:v1%18446744073709551616=v1:=Zh (by omega);have w:v2%18446744073709551616=v2:=Zh (by omega);have x:u2%18446744073709551616=u2:=Zh (by omega);have f:(r+v1)%18446744073709551616=r+v1:=Zh (by omega);have y:r*4294967296%18446744073709551616=r*4294967296:=mB b;have z:(r*4294967296+u2)%18446744073709551616=r*4294967296+u2:=IJ b c;have e:Xe .u64 (.ofNat (p+1)-.ofNat 1)=.ofNat p:=by rw[PD (by omega),wrap_u64,Yj,Zh (by omega)]
 apply VO
 ·obtain⟨t,N,O,Q,P,v,u,C,h,D,F,G,I,J,i,R⟩:=SH;rw[<-h,i];simp only[TD,R,Xr,reduceIte,Nat.reduceEqDiff,Nat.reduceAdd,x195_1,n,o.idx g,d,e,f,l,j];rfl
 ·simp only[Xo,reduceIte,Nat.reduceEqDiff]
theorem yM (D:Us lu U)(b:Us lv V)(S:m<10000000000000)(o:V[m+1]? =some v1)(q:V[m]? =some v2)(s:U[m]? =some u2)(F:v1<4294967296)(c:v2<4294967296)(d:u2<4294967296)(a:r<4294967296)(y:¬4294967296<=p+1)(A:r*4294967296+u2<(p+1)*v2)(w:¬4294967296<=r+v1):Xb E K 0 [0,1,5,7,8] x195_1 (k+1) ⟨[(0,.one (.p lu)),(1,.one (.p lv)),(5,LB (m+2)),(7,LD (p+1)),(8,LD r)],H⟩=Xb E K 0 [0,1,5,7,8] x195_1 k ⟨[(0,.one (.p lu)),(1,.one (.p lv)),(5,LB (m+2)),(7,LD p),(8,LD (r+v1))],H⟩:=by
 have C:Xe .i64 (.ofNat (m+2)-.ofNat 2)=.ofNat m:=by rw[Wi (by omega) (by omega)];rfl
 have B:Xe .i64 (.ofNat (m+2)-.ofNat 1)=.ofNat (m+1):=by rw[Wi (by omega) (by omega)];rfl
 have e:v1%18446744073709551616=v1:=Zh (by omega);have f:v2%18446744073709551616=v2:=Zh (by omega);have g:u2%18446744073709551616=u2:=Zh (by omega);have i:(r+v1)%18446744073709551616=r+v1:=Zh (by omega);have l:r*4294967296%18446744073709551616=r*4294967296:=mB a;have n:(r*4294967296+u2)%18446744073709551616=r*4294967296+u2:=IJ a d;have h:Xe .u64 (.ofNat (p+1)-.ofNat 1)=.ofNat p:=by rw[PD (by omega),wrap_u64,Yj,Zh (by omega)]
 have j:(p+1)*v2%18446744073709551616=(p+1)*v2:=by
  have:=Ss (x:=p+1) (by omega) c (z:=0) (u:=0) (by omega) (by omega);exact Zh (by omega)
 obtain⟨G,T,W,Y,X,J,I,L,t,M,N,O,P,Q,v,R⟩:=SH;rw[<-t,v];simp only[TD,R,Xr,reduceIte,Nat.reduceEqDiff,Nat.reduceAdd,x195_1,B,C,b.idx o,b.idx q,D.idx s,e,f,g,h,i,j,l,n,y,A,w]
theorem uz (F:Us lu U)(c:Us lv V)(T:m<10000000000000)(q:V[m+1]? =some v1)(s:V[m]? =some v2)(t:U[m]? =some u2)(G:v1<4294967296)(d:v2<4294967296)(e:u2<4294967296)(b:r<4294967296)(A:¬4294967296<=p+1)(B:r*4294967296+u2<(p+1)*v2)(y:4294967296<=r+v1):∃a,Xb E K 0 [0,1,5,7,8] x195_1 (k+1) ⟨[(0,.one (.p lu)),(1,.one (.p lv)),(5,LB (m+2)),(7,LD (p+1)),(8,LD r)],H⟩=some (.exit 0,⟨a,H⟩)/\Xh a 7=some (LD p):=by
 have D:Xe .i64 (.ofNat (m+2)-.ofNat 2)=.ofNat m:=by rw[Wi (by omega) (by omega)];rfl
 have C:Xe .i64 (.ofNat (m+2)-.ofNat 1)=.ofNat (m+1):=by rw[Wi (by omega) (by omega)];rfl
 have f:v1%18446744073709551616=v1:=Zh (by omega);have g:v2%18446744073709551616=v2:=Zh (by omega);have h:u2%18446744073709551616=u2:=Zh (by omega);have j:(r+v1)%18446744073709551616=r+v1:=Zh (by omega);have n:r*4294967296%18446744073709551616=r*4294967296:=mB b;have o:(r*4294967296+u2)%18446744073709551616=r*4294967296+u2:=IJ b e;have i:Xe .u64 (.ofNat (p+1)-.ofNat 1)=.ofNat p:=by rw[PD (by omega),wrap_u64,Yj,Zh (by omega)]
 have l:(p+1)*v2%18446744073709551616=(p+1)*v2:=by
  have:=Ss (x:=p+1) (by omega) d (z:=0) (u:=0) (by omega) (by omega);exact Zh (by omega)
 apply VO
 ·obtain⟨I,W,X,Z,Y,L,J,M,v,N,O,P,Q,S,w,R⟩:=SH;rw[<-v,w];simp only[TD,R,Xr,reduceIte,Nat.reduceEqDiff,Nat.reduceAdd,x195_1,C,D,c.idx q,c.idx s,F.idx t,f,g,h,i,j,l,n,o,A,B,y];rfl
 ·simp only[Xo,reduceIte,Nat.reduceEqDiff]
theorem Bx (w:Us lu U)(y:Us lv V)(P:m<10000000000000)(G:V[m+1]? =some v1)(j:V[m]? =some v2)(l:U[m]? =some u2)(A:v1<4294967296)(c:v2<4294967296)(d:u2<4294967296)(b:r<4294967296)(s:¬4294967296<=q)(t:¬r*4294967296+u2<q*v2):∃a,Xb E K 0 [0,1,5,7,8] x195_1 (k+1) ⟨[(0,.one (.p lu)),(1,.one (.p lv)),(5,LB (m+2)),(7,LD q),(8,LD r)],H⟩=some (.exit 0,⟨a,H⟩)/\Xh a 7=some (LD q):=by
 have v:Xe .i64 (.ofNat (m+2)-.ofNat 2)=.ofNat m:=by rw[Wi (by omega) (by omega)];rfl
 have X:Xe .i64 (.ofNat (m+2)-.ofNat 1)=.ofNat (m+1):=by rw[Wi (by omega) (by omega)];rfl
 have F:v1%18446744073709551616=v1:=Zh (by omega);have e:v2%18446744073709551616=v2:=Zh (by omega);have f:u2%18446744073709551616=u2:=Zh (by omega);have h:r*4294967296%18446744073709551616=r*4294967296:=mB b;have i:(r*4294967296+u2)%18446744073709551616=r*4294967296+u2:=IJ b d;have g:q*v2%18446744073709551616=q*v2:=by
  have:=Ss (x:=q) (by omega) c (z:=0) (u:=0) (by omega) (by omega);exact Zh (by omega)
 apply VO
 ·obtain⟨B,Q,S,W,T,D,C,I,n,J,L,M,N,O,o,R⟩:=SH;rw[<-n,o];simp only[TD,R,Xr,reduceIte,Nat.reduceEqDiff,Nat.reduceAdd,x195_1,v,y.idx j,w.idx l,e,f,g,h,i,s,t];rfl
 ·simp only[Xo,reduceIte,Nat.reduceEqDiff]
theorem qO (z:Us lu U)(A:Us lv V)(x:m<10000000000000)(u:V[m+1]? =some v1)(v:V[m]? =some v2)(w:U[m]? =some u2)(o:v1<4294967296)(g:v2<4294967296)(s:u2<4294967296){a:Nat}(I:a<v1*4294967296+4294967296):∀(d q r:Nat),q*v1+r=a->r<4294967296->q<=4294967298->4294967296<=r+d*v1->(4294967296<=q+1\/a*4294967296+u2<(q+1)*(v1*4294967296+v2))->∀k,d<k->
  ∃b n,Xb E K 0 [0,1,5,7,8] x195_1 k ⟨[(0,.one (.p lu)),(1,.one (.p lv)),(5,LB (m+2)),(7,LD q),(8,LD r)],H⟩=some (.exit 0,⟨b,H⟩)/\Xh b 7=some (LD n)/\tN v1 v2 a u2 n:=by
 intro d;induction d with
 |zero=>intro q r _ l _ D;omega
 |succ d J=>
  intro q r e l N D C k M;obtain⟨k,rfl⟩:∃L,k=L+1:=⟨k-1,by omega⟩;by_cases j:4294967296<=q
  ·obtain⟨p,rfl⟩:∃p,q=p+1:=⟨q-1,by omega⟩;have t:p*v1+(r+v1)=a:=by rw[Nat.succ_mul]at e;omega
   by_cases i:4294967296<=r+v1
   ·obtain⟨F,G⟩:=QJ (u2:=u2) t i g I;obtain⟨b,c,f⟩:=uA (E:=E) (K:=K) (k:=k) (H:=H) z A x u v w o g s l (by omega) j i;exact⟨b,p,c,f,F,G,.inl (by omega)⟩
   ·obtain⟨b,n,c,f⟩:=J p (r+v1) t (by omega) (by omega) (by rw[Nat.succ_mul]at D;omega) (.inl j) k (by omega);exact⟨b,n,by rw[yN z A x u v w o g s l (by omega) j i];exact c,f⟩
  ·by_cases B:r*4294967296+u2<q*v2
   ·obtain⟨p,rfl⟩:∃p,q=p+1:=by
     rcases Yn q with h|h
     ·subst h;omega
     ·exact⟨q-1,by omega⟩
    have t:p*v1+(r+v1)=a:=by rw[Nat.succ_mul]at e;omega
    have y:=jr e B;by_cases i:4294967296<=r+v1
    ·obtain⟨F,G⟩:=QJ (u2:=u2) t i g I;obtain⟨b,c,f⟩:=uz (E:=E) (K:=K) (k:=k) (H:=H) z A x u v w o g s l j B i;exact⟨b,p,c,f,F,G,.inr y⟩
    ·obtain⟨b,n,c,f⟩:=J p (r+v1) t (by omega) (by omega) (by rw[Nat.succ_mul]at D;omega) (.inr y) k (by omega);exact⟨b,n,by rw[yM z A x u v w o g s l j B i];exact c,f⟩
   ·obtain⟨b,c,f⟩:=Bx (E:=E) (K:=K) (k:=k) (H:=H) z A x u v w o g s l j B;refine⟨b,q,c,f,by omega,aC e (by omega),?_⟩;rcases C with C|C
    ·exact .inl (by omega)
    ·exact .inr C
end
theorem zH {B:Xs}(hB:Std B){lu lv:PL}{I J:P'}{m U V:Nat}(su:Us lu I)(sv:Us lv J)(a9:J.length=m+2)(hm:m<2000000000000)(hN:tJ V (m+2))(hU:U<V*4294967296)
  (hV:∀i,i<m+2->J[i]? =some (V / 4294967296^i%4294967296)) (hu:∀i,i<m+3->I[i]? =some (U / 4294967296^i%4294967296)):
  ∃q,Xu B 195 [.one lu,.one lv] (.one (LC q))/\q<4294967296/\U / V<=q/\q<=U / V+1:=by
 have A:=hN.2;have N:U<4294967296^(m+3):=by
  have:=Yw A (show 0<4294967296 by decide);rw[<-ZQ]at this;exact YE hU this
 obtain⟨v1,f⟩:∃v1,v1=V / 4294967296^(m+1):=⟨_,rfl⟩;have a5:v1<4294967296:=by rw[f];exact US A
 obtain⟨v2,t⟩:∃v2,v2=V / 4294967296^m%4294967296:=⟨_,rfl⟩;have a8:v2<4294967296:=by rw[t];exact Z1 _ (by decide)
 obtain⟨l,s⟩:∃l,l=U / 4294967296^(m+2):=⟨_,rfl⟩;have M:l<4294967296:=by rw[s];exact US N
 obtain⟨y,o⟩:∃y,y=U / 4294967296^(m+1)%4294967296:=⟨_,rfl⟩;have a0:y<4294967296:=by rw[o];exact Z1 _ (by decide)
 obtain⟨u2,r⟩:∃u2,u2=U / 4294967296^m%4294967296:=⟨_,rfl⟩;have a4:u2<4294967296:=by rw[r];exact Z1 _ (by decide)
 obtain⟨a,e⟩:∃a,a=l*4294967296+y:=⟨_,rfl⟩;have b:a=U / 4294967296^(m+1):=by rw[e,s,o];exact(Nl U (m+1)).symm
 have g:=mv hN;have c:=AR (m:=m) hU;rw[<-f]at g c;rw[<-b]at c;have u:J[m+1]? =some v1:=by rw[hV (m+1) (by omega),f,Zh (US A)]
 have S:J[m]? =some v2:=by rw[hV m (by omega),t]
 have Q:I[m+2]? =some l:=by rw[hu (m+2) (by omega),s,Zh (US N)]
 have O:I[m+1]? =some y:=by rw[hu (m+1) (by omega),o]
 have P:I[m]? =some u2:=by rw[hu m (by omega),r]
 obtain⟨w,rfl⟩:∃w,v1=w+1:=⟨v1-1,by omega⟩;have C:=Yz a (w+1);have T:=Z1 a (show 0<w+1 by omega);obtain⟨d,z⟩:∃d,d=a / (w+1):=⟨_,rfl⟩;obtain⟨Y,n⟩:∃Y,Y=a%(w+1):=⟨_,rfl⟩;rw[<-z,<-n]at C;rw[<-n]at T;have W:d<=4294967298:=by
  rcases Yx 4294967298 d with h|h
  ·exfalso;have:=Yb (w+1) (show 4294967299<=d from h);omega
  ·exact h
 have k:a*4294967296+u2<(d+1)*((w+1)*4294967296+v2):=by
  rw[Nat.mul_add,<-Z3];have h1:a+1<=(d+1)*(w+1):=by rw[ZG,Z4,ZR d];omega
  have h2:=Zn 4294967296 h1;have h3:=Zw ((d+1)*v2);omega
 have X:∃q,q<4294967296/\U / V<=q/\q<=U / V+1/\∀(E:Xa) (K:Nat),3<=K->∃G,Xb E K 0 [0,1,5,7,8] x195_1 K ⟨[(0,.one (.p lu)),(1,.one (.p lv)),(5,LB (m+2)),(7,LD d),(8,LD Y)],[]⟩=some (.exit 0,⟨G,[]⟩)/\Xh G 7=some (LD q):=by
  have j:=fun(E:Xa) (K:Nat) (hK:3<=K)=>qO (E:=E) (K:=K) (H:=[]) su sv (by omega) u S P a5 a8 a4 c 2 d Y (by rw[ZR];exact C) (by omega) W (by omega) (.inr k) K (by omega)
  have Z:∀q x,tN (w+1) v2 a u2 q->tN (w+1) v2 a u2 x->q=x:=by
   intro q x ⟨a1,a2,a3⟩ ⟨b1,b2,L⟩;rcases Nat.lt_trichotomy q x with h|h|h
   ·exfalso;rcases a3 with a3|a3
    ·omega
    ·have:=Zn ((w+1)*4294967296+v2) (show q+1<=x from h);omega
   ·exact h
   ·exfalso;rcases L with L|L
    ·omega
    ·have:=Zn ((w+1)*4294967296+v2) (show x+1<=q from h);omega
  obtain⟨T0,q,-,-,a6⟩:=j (B.E 3 3) 3 (Ze _);have a7:=a6;rw[f,t,b,r]at a6;obtain⟨D,F⟩:=eR hN hU a6;refine⟨q,a7.1,D,F,fun E K hK=> ?_⟩;obtain⟨G,x,b1,b2,L⟩:=j E K hK;rw[Z q x a7 L];exact⟨G,b1,b2⟩
 obtain⟨q,hq,D,F,hl⟩:=X;refine⟨q,Xu.of (hB.Wa _ _ rfl) (((XS.ge 3).and hB.Xk).mono fun E K ⟨hK,b0⟩=> ?_),hq,D,F⟩;obtain⟨G,a1,a2⟩:=hl E K hK;have s1:Xe .i64 (.ofNat (m+2)-.ofNat 1)=.ofNat (m+1):=by rw[Wi (by omega) (by omega)];rfl
 have f1:l%18446744073709551616=l:=Zh (by omega);have f2:y%18446744073709551616=y:=Zh (by omega);have f3:(w+1)%18446744073709551616=w+1:=Zh (by omega);have f4:l*4294967296%18446744073709551616=l*4294967296:=mB M;have f5:(l*4294967296+y)%18446744073709551616=a:=by rw[e];exact IJ M a0
 have o3:Tk .u64 (.ofNat a) (.ofNat (w+1))=some (.p (LC d)):=by
  show some (DL.p (.int .u64 (Xe .u64 (.ofNat (a / (w+1))))))=_;rw[<-z,wrap_u64,Zh (by omega)]
 have o4:T5 .u64 (.ofNat a) (.ofNat (w+1))=some (.p (LC Y)):=by rw[n];rfl
 have v:=sv.len;rw[a9]at v;clear k C c g e b f t s o r z n W hl;obtain⟨cE,lK,oD,oS,oR,dS,dD,h1,h2,h3,h4,h5,h6,h7,hL,R⟩:=SH;rw[<-h2]at a1;simp only[TD,R,Xr,reduceIte,Nat.reduceEqDiff,Nat.reduceLeDiff,Nat.reduceAdd,x195,v,s1,su.idx Q,su.idx O,sv.idx u,f1,f2,f3,f4,f5,o3,o4,a1,a2]
end Go.Proofs.YtidginchkjhobaaGreat
namespace Go.Num
theorem vL {q V c i a:Nat}(b:c=q*(V%4294967296^i) / 4294967296^i)(d:a=V / 4294967296^i%4294967296):(q*a+c) / 4294967296=q*(V%4294967296^(i+1)) / 4294967296^(i+1):=by
 rw[Qh,<-d,Nat.mul_add,ZQ,<-YX,Nat.mul_left_comm,Nat.add_mul_div_left _ _ (SZ i),<-b,Nat.add_comm]
theorem oK (V i:Nat):(Xd V)[i]?.getD 0=V / 4294967296^i%4294967296:=by
 by_cases h:i<(Xd V).length
 ·have e:Xd V=dg (Xd V).length V:=TZ (Xp V) rfl (Xm V);rw[e,dO h];rfl
 ·have a:=Sv V;have b:=VG (show(Xd V).length<=i by omega);rw[Yd (by omega),YP (ZZ a b)];rfl
theorem Cm {U V Y q c b n:Nat}(d:0<V)(k:V<4294967296^n)(o:q<4294967296)(m:U<4294967296^(n+1))(s:Y<4294967296^(n+1))(l:c=q*(V%4294967296^(n+1)) / 4294967296^(n+1))(h:Y+q*(V%4294967296^(n+1))=U%4294967296^(n+1)+(c+b)*4294967296^(n+1))(t:b<=1):
  (q=U / V->b=0/\Y=U%V)/\(q=U / V+1->b=1/\Y+V=U%V+4294967296^(n+1)):=by
 have f:V<4294967296^(n+1):=YE k (Nat.pow_lt_pow_right (by decide) (Nat.lt_succ_self n));rw[Zh f]at l h;rw[Zh m]at h;have i:q*V<4294967296^(n+1):=by rw[ZQ,ZR];exact Nat.mul_lt_mul'' k o
 have g:c=0:=by rw[l];exact YP i
 rw[g,Yg]at h;have j:=Yz U V;have r:=Z1 U d;rw[ZR]at j;constructor
 ·intro e;rw[<-e]at j;have a:b=0:=by
   rcases Yx b 1 with hb1|hb1
   ·omega
   ·have :b=1:=by omega
    rw[this,Z4]at h;exfalso;generalize q*V=w at *;generalize U%V=z at *;generalize 4294967296^(n+1)=p at *;omega
  rw[a,YJ]at h;exact⟨a,by omega⟩
 ·intro e;rw[e,ZG,Z4]at h;have a:b=1:=by
   rcases Yx b 1 with hb1|hb1
   ·have :b=0:=by omega
    rw[this,YJ]at h;exfalso;generalize U / V*V=w at *;generalize U%V=z at *;omega
   ·omega
  rw[a,Z4]at h;exact⟨a,by omega⟩
end Go.Num
namespace Go.Proofs.YtidginchkjhobaaGreat
open Go.Ev Go.Num
section
variable {E:Xa}{K:Nat}{iu j n tu:Nat}{lv:PL}{low hi:P'}{U V q:Nat}
theorem mq (B:E.mode=md)(l:low.length=j)(hn:n<10000000000000)(T:q<4294967296)(W:∀i,i<n->E.pure 163 [.one lv,.one (LA i)]=some (.one (LC (V / 4294967296^i%4294967296)))):∀(d i k:Nat) (H:V') (e:P') (c b:Nat),i+d=n->d<k->
  H[iu]? =some ⟨false,0,1,Wl (low++e++(dg d (U / 4294967296^i)++hi)),false,tu⟩->e.length=i->WG e->c<4294967296->b<=1->c=q*(V%4294967296^i) / 4294967296^i->val e+q*(V%4294967296^i)=U%4294967296^i+(c+b)*4294967296^i->
  ∃g f G x,Xb E K 0 [0,1,2,7,8,9] x196_1 k ⟨[(0,.one (.own iu 0 j n)),(1,.one (.p lv)),(2,LD q),(7,LD c),(8,LD b),(9,LB i)],H⟩=
   some (.exit 0,⟨g,H.set iu ⟨false,0,1,Wl (low++f++hi),false,tu⟩⟩)/\Xh g 8=some (LD x)/\
   f.length=n/\WG f/\x<=1/\G=q*(V%4294967296^n) / 4294967296^n/\val f+q*(V%4294967296^n)=U%4294967296^n+(G+x)*4294967296^n
 |_,_,0,_,_,_,_,_,h,_,_,_,_,_,_,_=>by omega
 |0,i,k+1,H,e,c,b,hi',_,hu,h1,h2,h3,h4,h4',h5=>by
  obtain rfl:i=n:=by omega
  rw[show dg 0 (U / 4294967296^i)=[]from rfl,ZF]at hu;have :∃g,Xb E K 0 [0,1,2,7,8,9] x196_1 (k+1) ⟨[(0,.one (.own iu 0 j i)),(1,.one (.p lv)),(2,LD q),(7,LD c),(8,LD b),(9,LB i)],H⟩=some (.exit 0,⟨g,H⟩)/\Xh g 8=some (LD b):=by
   apply VO
   ·obtain⟨Z,lK,oD,oS,oR,dS,dD,e1,e2,e3,e4,e5,e6,e7,N,R⟩:=SH;rw[<-e2,N];simp only[TD,R,Xr,reduceIte,Nat.reduceEqDiff,x196_1,Zv];rfl
   ·simp only[Xo,reduceIte,Nat.reduceEqDiff]
  obtain⟨g,w,M⟩:=this;exact⟨g,e,c,b,by rw[Qc hu];exact w,M,h1,h2,h4,h4',h5⟩
 |d+1,i,k+1,H,e,c,b,hi',hk,hu,h1,h2,h3,h4,h4',h5=>by
  have A:i<n:=by omega
  have D:=W i A;obtain⟨v,o⟩:∃v,v=V / 4294967296^i%4294967296:=⟨_,rfl⟩;obtain⟨a,y⟩:∃a,a=U / 4294967296^i%4294967296:=⟨_,rfl⟩;have P:v<4294967296:=by omega
  have a0:a<4294967296:=by omega
  rw[oW,ZU,<-y]at hu;rw[<-o]at D;have C:(low++e).length=j+i:=by rw[Zm,l,h1]
  have ht:=Ss T P (z:=0) (u:=c) (by omega) h3;obtain⟨t,I⟩:∃t,t=q*v+c:=⟨_,rfl⟩;have f2:a%18446744073709551616=a:=Zh (by omega);have f3:q*v%18446744073709551616=q*v:=Zh (by omega);have S:t%18446744073709551616=t:=Zh (by omega);have f6:Xe .i64 (.ofNat (i+1))=.ofNat (i+1):=wrap_i64 (by omega);have f7:(4294967296+a)%18446744073709551616=4294967296+a:=Zh (by omega);have k1:Xe .u64 (.ofNat (4294967296+a)-.ofNat (t%4294967296))=.ofNat (4294967296+a-t%4294967296):=Q5 (by omega) (by omega);have X:Xe .u64 (.ofNat (4294967296+a-t%4294967296)-.ofNat b)=.ofNat (4294967296+a-t%4294967296-b):=Q5 (by omega) (by omega);obtain⟨s,Q⟩:∃s,s=4294967296+a-t%4294967296-b:=⟨_,rfl⟩;have k3:Xe .u64 (.ofNat 1-.ofNat (s / 4294967296))=.ofNat (1-s / 4294967296):=Q5 (by omega) (by decide);have f8:s / 4294967296%18446744073709551616=s / 4294967296:=Zh (by omega);have f9:t / 4294967296%18446744073709551616=t / 4294967296:=Zh (by omega);have J:s%4294967296%4294967296=s%4294967296:=Nat.mod_mod ..;have F:s%4294967296+t%4294967296+b=a+4294967296*(1-s / 4294967296):=by omega
  have O:t / 4294967296<4294967296:=by omega
  have m:=wc h5 I rfl F;have r:=vL h4' o;rw[<-I]at r;obtain⟨g,f,G,x,w,M,g3,g4,g5,g6,g7⟩:=mq B l hn T W d (i+1) k (H.set iu ⟨false,0,1,Wl (low++(e++[s%4294967296])++(dg d (U / 4294967296^(i+1))++hi)),false,tu⟩) (e++[s%4294967296]) (t / 4294967296) (1-s / 4294967296) (by omega) (by omega)
   (PI hu) (by simp[h1]) (h2.snoc (by omega)) O (by omega) r (by rw[aS _ _ h1,Qh,Qh,<-o,<-y,ZQ];exact m)
  rw[List.set_set]at w;refine⟨g,f,G,x,?_,M,g3,g4,g5,g6,g7⟩;rw[<-Zq low e [s%4294967296],<-NC (low++e) _ a (s%4294967296) C]at w;have Y:=X7 (ND (low++e) (dg d (U / 4294967296^(i+1))++hi) a C);have q1:Tk .u64 (.ofNat t) (.ofNat 4294967296)=some (.p (LC (t / 4294967296))):=by
   show some (DL.p (.int .u64 (Xe .u64 (.ofNat (t / 4294967296)))))=_;rw[wrap_u64,f9]
  have q2:Tk .u64 (.ofNat s) (.ofNat 4294967296)=some (.p (LC (s / 4294967296))):=by
   show some (DL.p (.int .u64 (Xe .u64 (.ofNat (s / 4294967296)))))=_;rw[wrap_u64,f8]
  have q3:T5 .u64 (.ofNat t) (.ofNat 4294967296)=some (.p (LC (t%4294967296))):=rfl;have q4:T5 .u64 (.ofNat s) (.ofNat 4294967296)=some (.p (LC (s%4294967296))):=rfl;rw[<-Q]at X;have L:(q*v+c)%18446744073709551616=t:=by rw[<-I];exact S
  clear m F r Q ht S I;obtain⟨Z,lK,oD,oS,oR,dS,dD,e1,e2,e3,e4,e5,e6,e7,N,R⟩:=SH;rw[<-e2]at w⊢;rw[N];simp only[TD,R,Xr,reduceIte,Nat.reduceEqDiff,Nat.reduceLeDiff,Zw,x196_1,B,X4,D,hu,Y,A,f2,f3,f6,f7,J,L,k1,X,k3,q1,q2,q3,q4,WQ];exact w
end
end Go.Proofs.YtidginchkjhobaaGreat
namespace Go.Proofs.YtidginchkjhobaaGreat
open Go.Ev Go.Num
theorem cP {B:Xs}(a:Std B){lv:PL}{V:Nat}(b:cK lv V)(n:Nat):XS B fun E _=>∀i,i<n->E.pure 163 [.one lv,.one (LA i)]=some (.one (LC (V / 4294967296^i%4294967296))):=
 XS.all n fun i _=>by
  have:=R5 a b (Xp V) i;rw[oK]at this;exact this.Xk
theorem u7 {B:Xs}(k:Std B){H:V'}{iu j n tu:Nat}{lv:PL}{low hi:P'}{U V q:Nat}(m:low.length=j)(hn:n<2000000000000)(C:0<V)(A:V<4294967296^n)(S:cK lv V)(hU:U<4294967296^(n+1))(G:q<4294967296)
  (hu:H[iu]? =some ⟨false,0,1,Wl (low++(dg (n+1) U++hi)),false,tu⟩):
  ∃Y b,Ut B 196 [.one (.own iu 0 j (n+1)),.one (.p lv),LD q] H (.one (.p (.bool (decide (b=1))))) (H.set iu ⟨false,0,1,Wl (low++(dg (n+1) Y++hi)),false,tu⟩)/\Y<4294967296^(n+1)/\
   (q=U / V->b=0/\Y=U%V)/\(q=U / V+1->b=1/\Y+V=U%V+4294967296^(n+1)):=by
 have key:∀(E:Xa) (K:Nat),n+2<=K->E.mode=md->(∀i,i<n+1->E.pure 163 [.one lv,.one (LA i)]=some (.one (LC (V / 4294967296^i%4294967296))))->
   ∃g d b c,Xb E K 0 [0,1,2,7,8,9] x196_1 K ⟨[(0,.one (.own iu 0 j (n+1))),(1,.one (.p lv)),(2,LD q),(7,LD 0),(8,LD 0),(9,LB 0)],H⟩=
    some (.exit 0,⟨g,H.set iu ⟨false,0,1,Wl (low++d++hi),false,tu⟩⟩)/\Xh g 8=some (LD b)/\d.length=n+1/\WG d/\b<=1/\c=q*(V%4294967296^(n+1)) / 4294967296^(n+1)/\val d+q*(V%4294967296^(n+1))=U%4294967296^(n+1)+(c+b)*4294967296^(n+1):=by
  intro E K L e hw;obtain⟨g,d,c,b,g1,g2,v,x,s,y,h⟩:=mq (E:=E) (K:=K) (iu:=iu) (tu:=tu) (low:=low) (hi:=hi) (U:=U) (q:=q) e m (show n+1<10000000000000 by omega) G hw (n+1) 0 K H [] 0 0 (by omega) (by omega)
   (by rw[ZE,Nat.pow_zero,Nat.div_one];exact hu) rfl WG.nil (by decide) (by decide) (by simp[Nat.mod_one]) (by simp[val,Nat.mod_one])
  exact⟨g,d,b,c,g1,g2,v,x,s,y,h⟩
 have f:q*(V%4294967296^(n+1)) / 4294967296^(n+1)=0:=by
  rw[Zh (YE A (Nat.pow_lt_pow_right (by decide) (Nat.lt_succ_self n)))];exact YP (by rw[ZQ,ZR];exact Nat.mul_lt_mul'' A G)
 have t:∀Y b,Y<4294967296^(n+1)->b<=1->Y+q*(V%4294967296^(n+1))=U%4294967296^(n+1)+(0+b)*4294967296^(n+1)->∀r a,r<4294967296^(n+1)->a<=1->r+q*(V%4294967296^(n+1))=U%4294967296^(n+1)+(0+a)*4294967296^(n+1)->Y=r/\b=a:=by
  intro Y b I J z r a h4 h5 h6;generalize q*(V%4294967296^(n+1))=w at *;generalize U%4294967296^(n+1)=u at *;generalize 4294967296^(n+1)=p at *;have :b=0\/b=1:=by omega
  have :a=0\/a=1:=by omega
  rcases ‹b=0\/b=1› with rfl|rfl<;>rcases ‹a=0\/a=1› with rfl|rfl<;>simp only[Yg,YJ,Z4]at z h6<;>first |exact⟨by omega,rfl⟩|(exfalso;omega)
 obtain⟨N,hN⟩:=(cP k S (n+1)).and (k.Xk.and (XS.ge (B:=B) (n+2)));obtain⟨I,J,z⟩:=hN N N (Ze _) (Ze _);obtain⟨T0,o,W,c0,-,-,v,x,s,y,h⟩:=key _ N z J I;rw[y,f]at h;have D:val o<4294967296^(n+1):=by have:=W3 x;rwa[v]at this
 have l:=Cm C A G hU D f.symm h s;refine⟨val o,W,Ut.of (k.Wa _ _ rfl) ((((cP k S (n+1)).and (k.Xk.and (XS.ge (n+2))))).mono fun E K ⟨T,e,L⟩=> ?_),D,l⟩;obtain⟨g,d,b,c,M,k2,O,P,k5,k6,Q⟩:=key E K L e T;rw[k6,f]at Q;have F:val d<4294967296^(n+1):=by have:=W3 P;rwa[O]at this
 obtain⟨X,Z⟩:=t _ _ D s h _ _ F k5 Q;rw[X,Z,<-TZ P O rfl,<-Zq];obtain⟨cE,lK,oD,oS,oR,dS,dD,e1,e2,e3,e4,e5,e6,e7,hL,R⟩:=SH;rw[<-e2]at M;simp only[TD,R,Vx,Xr,reduceIte,Nat.reduceEqDiff,Nat.reduceLeDiff,x196,M,k2]
section
variable {E:Xa}{K:Nat}{iu j n tu:Nat}{lv:PL}{low hi:P'}{U V:Nat}
theorem nl (u:E.mode=md)(f:low.length=j)(hn:n<10000000000000)(C:∀i,i<n->E.pure 163 [.one lv,.one (LA i)]=some (.one (LC (V / 4294967296^i%4294967296)))):∀(d i k:Nat) (H:V') (b:P') (c:Nat),i+d=n->d<k->
  H[iu]? =some ⟨false,0,1,Wl (low++b++(dg d (U / 4294967296^i)++hi)),false,tu⟩->b.length=i->WG b->c<=1->val b+c*4294967296^i=U%4294967296^i+V%4294967296^i->
  ∃m e y,Xb E K 0 [0,1,4,5] x197_1 k ⟨[(0,.one (.own iu 0 j n)),(1,.one (.p lv)),(4,LD c),(5,LB i)],H⟩=
   some (.exit 0,⟨m,H.set iu ⟨false,0,1,Wl (low++e++hi),false,tu⟩⟩)/\e.length=n/\WG e/\y<=1/\val e+y*4294967296^n=U%4294967296^n+V%4294967296^n
 |_,_,0,_,_,_,_,h,_,_,_,_,_=>by omega
 |0,i,k+1,H,b,c,hi',_,hu,h1,h2,h3,h4=>by
  obtain rfl:i=n:=by omega
  rw[show dg 0 (U / 4294967296^i)=[]from rfl,ZF]at hu;have :∃m,Xb E K 0 [0,1,4,5] x197_1 (k+1) ⟨[(0,.one (.own iu 0 j i)),(1,.one (.p lv)),(4,LD c),(5,LB i)],H⟩=some (.exit 0,⟨m,H⟩)/\True:=by
   apply VO
   ·obtain⟨F,lK,oD,oS,oR,I,G,e1,e2,J,L,M,N,O,A,R⟩:=SH;rw[<-e2,A];simp only[TD,R,Xr,reduceIte,Nat.reduceEqDiff,x197_1,Zv];rfl
   ·trivial
  obtain⟨m,o,-⟩:=this;exact⟨m,b,c,by rw[Qc hu];exact o,h1,h2,h3,h4⟩
 |d+1,i,k+1,H,b,c,hi',hk,hu,h1,h2,h3,h4=>by
  have s:i<n:=by omega
  have w:=C i s;obtain⟨l,r⟩:∃l,l=V / 4294967296^i%4294967296:=⟨_,rfl⟩;obtain⟨a,q⟩:∃a,a=U / 4294967296^i%4294967296:=⟨_,rfl⟩;have a1:l<4294967296:=by omega
  have a0:a<4294967296:=by omega
  rw[oW,ZU,<-q]at hu;rw[<-r]at w;have v:(low++b).length=j+i:=by rw[Zm,f,h1]
  obtain⟨t,B⟩:∃t,t=a+l+c:=⟨_,rfl⟩;have P:a%18446744073709551616=a:=Zh (by omega);have Q:(a+l)%18446744073709551616=a+l:=Zh (by omega);have S:(a+l+c)%18446744073709551616=t:=by rw[<-B];exact Zh (by omega)
  have T:Xe .i64 (.ofNat (i+1))=.ofNat (i+1):=wrap_i64 (by omega);have W:t / 4294967296%18446744073709551616=t / 4294967296:=Zh (by omega);have z:t%4294967296%4294967296=t%4294967296:=Nat.mod_mod ..;have x:t%4294967296+4294967296*(t / 4294967296)=a+l+c:=by omega
  have g:=xX h4 x;obtain⟨m,e,y,o,X,Y,Z,g6⟩:=nl u f hn C d (i+1) k (H.set iu ⟨false,0,1,Wl (low++(b++[t%4294967296])++(dg d (U / 4294967296^(i+1))++hi)),false,tu⟩) (b++[t%4294967296]) (t / 4294967296) (by omega) (by omega)
   (PI hu) (by simp[h1]) (h2.snoc (by omega)) (by omega) (by rw[aS _ _ h1,Qh,Qh,<-r,<-q,ZQ,ZR _ a];exact g)
  rw[List.set_set]at o;refine⟨m,e,y,?_,X,Y,Z,g6⟩;rw[<-Zq low b [t%4294967296],<-NC (low++b) _ a (t%4294967296) v]at o;have D:=X7 (ND (low++b) (dg d (U / 4294967296^(i+1))++hi) a v);have q2:Tk .u64 (.ofNat t) (.ofNat 4294967296)=some (.p (LC (t / 4294967296))):=by
   show some (DL.p (.int .u64 (Xe .u64 (.ofNat (t / 4294967296)))))=_;rw[wrap_u64,W]
  have q4:T5 .u64 (.ofNat t) (.ofNat 4294967296)=some (.p (LC (t%4294967296))):=rfl;clear g x B;obtain⟨F,lK,oD,oS,oR,I,G,e1,e2,J,L,M,N,O,A,R⟩:=SH;rw[<-e2]at o⊢;rw[A];simp only[TD,R,Xr,reduceIte,Nat.reduceEqDiff,Nat.reduceLeDiff,Zw,x197_1,u,X4,w,hu,D,s,P,Q,S,T,z,q2,q4,WQ];exact o
end
theorem qR {B:Xs}(d:Std B){H:V'}{iu j n tu:Nat}{lv:PL}{low hi:P'}{Y V Z:Nat}(a:low.length=j)(J:n<2000000000000)(o:V<4294967296^n)(s:cK lv V)(q:Y<4294967296^n)(I:Z<4294967296^n)(h:Y+V=Z+4294967296^n)
  (r:H[iu]? =some ⟨false,0,1,Wl (low++(dg n Y++hi)),false,tu⟩):
  Ut B 197 [.one (.own iu 0 j n),.one (.p lv)] H (.X9 []) (H.set iu ⟨false,0,1,Wl (low++(dg n Z++hi)),false,tu⟩):=by
 refine Ut.of (d.Wa _ _ rfl) ((((cP d s n).and (d.Xk.and (XS.ge (n+1))))).mono fun E K ⟨m,e,F⟩=> ?_);obtain⟨t,l,c,g,i,k,D,b⟩:=nl (E:=E) (K:=K) (iu:=iu) (tu:=tu) (low:=low) (hi:=hi) (U:=Y) e a (show n<10000000000000 by omega) m n 0 K H [] 0 (by omega) (by omega)
   (by rw[ZE,Nat.pow_zero,Nat.div_one];exact r) rfl WG.nil (by decide) (by simp[val,Nat.mod_one])
 rw[Zh q,Zh o,h]at b;have L:val l<4294967296^n:=by have:=W3 k;rwa[i]at this
 have f:val l=Z:=by
  generalize 4294967296^n=p at *;have :c=0\/c=1:=by omega
  rcases this with rfl|rfl
  ·rw[YJ]at b;omega
  ·rw[Z4]at b;omega
 rw[<-f,<-TZ k i rfl,<-Zq];obtain⟨u,M,N,P,O,w,v,e1,e2,x,y,z,A,C,G,R⟩:=SH;rw[<-e2]at g;simp only[TD,R,Vx,Xr,reduceIte,Nat.reduceEqDiff,Nat.reduceLeDiff,x197,g]
end Go.Proofs.YtidginchkjhobaaGreat
namespace Go.Num
theorem Ca {y n w d:Nat}(q:w=y / 4294967296^n)(s:0<w)(t:w<4294967296)(g:d=4294967296 / (w+1)):tJ (y*d) (n+1)/\0<d/\d<4294967296:=by
 obtain⟨i,j⟩:=T4 y _ (SZ n);rw[<-q]at i j;have c:=Yz 4294967296 (w+1);have o:=Z1 4294967296 (show 0<w+1 by omega);rw[<-g]at c;have b:0<d:=by rw[g];exact Nat.div_pos (by omega) (by omega)
 have h:d<4294967296:=by rw[g];exact Nat.div_lt_self (by decide) (by omega)
 obtain⟨r,p⟩:∃r,r=4294967296%(w+1):=⟨_,rfl⟩;rw[<-p]at c o;have a:4294967296<=2*(w*d):=by
  have e:(w+1)*d=w*d+d:=by rw[ZG,Z4]
  rw[e]at c;rcases Yx 1 d with hd2|hd2
  ·rcases Yx 1 w with hw2|hw2
   ·have :2*(w-1)<=d*(w-1):=Zn _ hd2;have e2:d*(w-1)+d=w*d:=by
     obtain⟨v,rfl⟩:∃v,w=v+1:=⟨w-1,by omega⟩;rw[Yj,ZG,Z4,ZR]
    omega
   ·have :w=1:=by omega
    subst this;omega
  ·have :d=1:=by omega
   subst this;omega
 refine⟨⟨?_,?_⟩,b,h⟩
 ·rw[ZQ];have k:=Zn d i;have f:=Zn (4294967296^n) a;generalize 4294967296^n=P at *;have m:2*(w*d)*P=2*(w*P*d):=by rw[Z3,Nat.mul_right_comm]
  rw[m]at f;rw[ZR P];omega
 ·rw[ZQ];have k:=Yw j b;have f:(w+1)*d<=4294967296:=by omega
  have l:=Zn (4294967296^n) f;rw[Nat.mul_right_comm]at l;rw[ZR (4294967296^n)];exact ZZ k l
end Go.Num
namespace Go.Proofs.YtidginchkjhobaaGreat
open Go.Ev Go.Num
def im (X V L N i:Nat):V':=[⟨false,0,1,Wl (dg L (X%(V*4294967296^i))),false,177⟩,⟨false,0,1,Wl (List.replicate i 0++dg (N+1-i) (X / (V*4294967296^i))),false,177⟩]
def pB (E:Xa)(lv:PL)(X V L m N j:Nat):Prop:=∃q,E.pure 195 [.one (.Xn (Uy (dg (m+3) (X%(V*4294967296^(j+1)) / 4294967296^j)))),.one lv]=some (.one (LC q))/\
 ((q=X%(V*4294967296^(j+1)) / 4294967296^j / V/\E.heap 196 [.one (.own 0 0 j (m+3)),.one (.p lv),LD q] (im X V L N (j+1))=some (.one (.p (.bool false)),(im X V L N (j+1)).set 0 ⟨false,0,1,Wl (dg L (X%(V*4294967296^j))),false,177⟩))\/
  (q=X%(V*4294967296^(j+1)) / 4294967296^j / V+1/\∃W,E.heap 196 [.one (.own 0 0 j (m+3)),.one (.p lv),LD q] (im X V L N (j+1))=some (.one (.p (.bool true)),(im X V L N (j+1)).set 0 ⟨false,0,1,Wl W,false,177⟩)/\
   E.heap 197 [.one (.own 0 0 j (m+3)),.one (.p lv)] ((im X V L N (j+1)).set 0 ⟨false,0,1,Wl W,false,177⟩)=some (.X9 [],(im X V L N (j+1)).set 0 ⟨false,0,1,Wl (dg L (X%(V*4294967296^j))),false,177⟩)))
theorem EN {B:Xs}(l:Std B){lv:PL}{X V L m N j:Nat}(Q:L=N+(m+3))(R:N<1000000000000)(T:m<1000000000000)(S:j<N+1)(t:cK lv V)(y:tJ V (m+2))(e:0<V)(g:(Xd V).length=m+2):XS B fun E _=>pB E lv X V L m N j:=by
 have a:=y.2;have c:V<4294967296^(m+3):=YE a (Nat.pow_lt_pow_right (by decide) (Nat.lt_succ_self _));obtain⟨A,r,s⟩:=dI (X:=X) (V:=V) (L:=L) (N:=N) (n:=m+2) (j:=j) (by omega) e a;unfold pB;obtain⟨U,v⟩:∃U,U=X%(V*4294967296^(j+1)) / 4294967296^j:=⟨_,rfl⟩;obtain⟨low,w⟩:∃low,low=dg j (X%(V*4294967296^(j+1))):=⟨_,rfl⟩;have d:low.length=j:=by rw[w,Wd]
 rw[<-v,<-w]at A r;rw[<-v]at s⊢;have o:U<4294967296^(m+3):=by
  have:=Yw a (show 0<4294967296 by decide);rw[<-ZQ]at this;exact YE s this
 have G:(im X V L N (j+1))[0]? =some ⟨false,0,1,Wl (low++(dg (m+3) U++List.replicate (N-j) 0)),false,177⟩:=by
  show some (Xx.mk false 0 1 (Wl (dg L (X%(V*4294967296^(j+1))))) false 177)=_;rw[A]
 obtain⟨q,x,D,O,P⟩:=zH l (lu:=.Xn (Uy (dg (m+3) U))) .Xn t g (by omega) y s (fun i hi=>by
  have :Xd V=dg (m+2) V:=TZ (Xp V) g (Xm V);rw[this,dO hi]) (fun i hi=>dO hi)
 obtain⟨Y,b,h,I,J,M⟩:=u7 l (H:=im X V L N (j+1)) (iu:=0) (n:=m+2) d (by omega) e a t o D G;have F:=Z1 U e;rcases Yx q (U / V+1)with hc|hc
 ·have f:q=U / V:=by omega
  obtain⟨k,u⟩:=J f;rw[k,u,<-r]at h;refine(x.Xk.and h.Xk).mono fun E K ⟨e1,e2⟩=>⟨q,e1,.inl ⟨f,?_⟩⟩
  exact e2
 ·have f:q=U / V+1:=by omega
  obtain⟨k,u⟩:=M f;rw[k]at h;have p:((im X V L N (j+1)).set 0 ⟨false,0,1,Wl (low++(dg (m+2+1) Y++List.replicate (N-j) 0)),false,177⟩)[0]? =some ⟨false,0,1,Wl (low++(dg (m+3) Y++List.replicate (N-j) 0)),false,177⟩:=rfl;have z:=qR l d (show m+3<2000000000000 by omega) c t I (YE F c) u p;rw[<-r,List.set_set]at z;exact(x.Xk.and (h.Xk.and z.Xk)).mono fun E K ⟨e1,e2,C⟩=>⟨q,e1,.inr ⟨f,_,e2,C⟩⟩
theorem wz {E:Xa}{K:Nat}{lv:PL}{X V L m N d:Nat}(hL:L=N+(m+3))(hN:N<1000000000000)(hm:m<1000000000000)(f:E.mode=md)(s:0<V)(t:V<4294967296^(m+2))
  (T:∀j,j<N+1->pB E lv X V L m N j):
  ∀(i:Nat),i<=N+1->∀k,i<k->∃g,Xb E K 0 [8,9,10,11,12,13] x185_1 k ⟨[(8,LB (m+2)),(9,LD d),(10,.one (.p lv)),(11,.one (.own 0 0 0 L)),(12,.one (.own 1 0 0 (N+1))),(13,.one (.p (.int .i64 (pI i))))],im X V L N i⟩=some (.exit 0,⟨g,im X V L N 0⟩)/\
   Xh g 9=some (LD d)/\Xh g 11=some (.one (.own 0 0 0 L))/\Xh g 12=some (.one (.own 1 0 0 (N+1)))
 |_,_,0,h=>by omega
 |0,_,k+1,_=>by
  apply VO
  ·obtain⟨Y,lK,oD,oS,oR,dS,Z,e1,e2,e3,e4,e5,e6,e7,e,R⟩:=SH;rw[<-e2,e];simp only[TD,R,Xr,reduceIte,Nat.reduceEqDiff,x185_1,fS];rfl
  ·simp only[Xo,reduceIte,Nat.reduceEqDiff,and_self]
 |j+1,hj,k+1,hk=>by
  obtain⟨g,w,g2⟩:=wz (K:=K) hL hN hm f s t T j (by omega) k (by omega);refine⟨g,?_,g2⟩;obtain⟨y,-,z⟩:=dI (X:=X) (V:=V) (L:=L) (N:=N) (n:=m+2) (j:=j) (by omega) s t;obtain⟨q,x,c⟩:=T j (by omega);have a:=lQ (X:=X) (V:=V) (N:=N) (j:=j) (by omega);obtain⟨U,B⟩:∃U,U=X%(V*4294967296^(j+1)) / 4294967296^j:=⟨_,rfl⟩;rw[<-B]at x c a y z;obtain⟨Q,u⟩:∃Q,Q=U / V:=⟨_,rfl⟩;have hQ:Q<4294967296:=by rw[u];exact Yl z
  rw[<-u]at c a;have C:Xe .i64 (.ofNat (j+(m+2)))=.ofNat (j+(m+2)):=wrap_i64 (by omega);have F:Xe .i64 (.ofNat (j+(m+2)+1))=.ofNat (j+(m+2)+1):=wrap_i64 (by omega);have G:Xe .i64 (.ofNat j-.ofNat 1)=pI j:=UI (by omega);have S:(im X V L N (j+1))[0]? =some ⟨false,0,1,Wl (dg L (X%(V*4294967296^(j+1)))),false,177⟩:=rfl;have H:WA 1 (Xj (im X V L N (j+1))) (.own 0 0 0 L) j (some (j+(m+2)+1))=some (.own 0 0 j (m+3),[0]):=by
   rw[Nq (b:=⟨false,0,1,Wl (dg L (X%(V*4294967296^(j+1)))),false,177⟩) rfl (by omega) (by omega) rfl,Yg,show j+(m+2)+1-j=m+3 by omega]
  have P:((Wl (dg L (X%(V*4294967296^(j+1))))).drop j).take (m+3)=Wl (dg (m+3) U):=by
   rw[y,pZ,List.drop_left' (Wd _ _),pV,List.take_left' (Wd _ _)]
  have l:j+(m+3)<=L:=by omega
  have I:((im X V L N (j+1)).set 0 ⟨false,0,1,Wl (dg L (X%(V*4294967296^j))),false,177⟩)[1]? =some ⟨false,0,1,Wl (List.replicate (j+1) 0++dg (N-j) (X / (V*4294967296^(j+1)))),false,177⟩:=by
   show some (Xx.mk false 0 1 (Wl (List.replicate (j+1) 0++dg (N+1-(j+1)) (X / (V*4294967296^(j+1))))) false 177)=_;rw[Nat.add_sub_add_right]
  have J:=X7 (ga 0 j (dg (N-j) (X / (V*4294967296^(j+1)))));have M:((im X V L N (j+1)).set 0 ⟨false,0,1,Wl (dg L (X%(V*4294967296^j))),false,177⟩).set 1 ⟨false,0,1,Wl (List.replicate j 0++dg (N+1-j) (X / (V*4294967296^j))),false,177⟩=im X V L N j:=rfl;have O:j<N+1:=by omega
  have o:Q%4294967296=Q:=Zh hQ;have v:Xe .u64 (.ofNat (Q+1)-.ofNat 1)=.ofNat Q:=by rw[PD (by omega),wrap_u64,Yj,Zh (by omega)]
  have r:=Wd L (X%(V*4294967296^(j+1)));generalize dg L (X%(V*4294967296^(j+1)))=A at *;generalize im X V L N (j+1)=D at *;generalize (D.set 0 ⟨false,0,1,Wl (dg L (X%(V*4294967296^j))),false,177⟩)=D1 at *;generalize im X V L N j=D2 at *;generalize im X V L N 0=D3 at *;generalize dg (N-j) (X / (V*4294967296^(j+1)))=l1 at *;generalize dg (N+1-j) (X / (V*4294967296^j))=l2 at *;clear B u y z;obtain⟨Y,lK,oD,oS,oR,dS,Z,e1,e2,e3,e4,e5,e6,e7,e,R⟩:=SH;rw[<-e2]at w⊢;rw[e];rcases c with⟨rfl,c⟩|⟨rfl,W,c,h3⟩
  ·simp only[TD,R,Vx,Xr,reduceIte,Nat.reduceEqDiff,Nat.reduceLeDiff,Zw,x185_1,bF,f,X4,x,c,C,F,G,H,I,J,O,P,l,o,r,S,Vv,Um,UA,WQ,Nr,a,M];exact w
  ·simp only[TD,R,Vx,Xr,reduceIte,Nat.reduceEqDiff,Nat.reduceLeDiff,Zw,x185_1,bF,f,X4,x,c,h3,C,F,G,H,I,J,O,P,l,o,v,r,S,Vv,Um,UA,WQ,Nr,a,M];exact w
theorem fc {B:Xs}(a:Std B){la lb:PL}{x y:Nat}(F:cK la x)(l:cK lb y)(hx:(Xd x).length<1000000000000)(hy:(Xd y).length<1000000000000)(D:0<y):
  ∃q r,Xu B 185 [.one la,.one lb] (.X9 [.one q,.one r])/\cK q (x / y)/\cK r (x%y):=by
 have H:=cp a F l (Xp _) (Xp _) (Vc _) (Vc _) (by omega) (by omega);rw[Xm,Xm]at H;by_cases c:x<y
 ·refine⟨.Xq,la,Xu.of (a.Wa _ _ rfl) ((H.Xk.and a.Xk).mono fun E K ⟨o,e⟩=> ?_),?_,?_⟩
  ·simp only[Xo,Xr,reduceIte,Nat.reduceEqDiff,Nat.reduceLeDiff,x185,e,X4,o,Rq,c]
  ·rw[YP c];exact cK.zero
  ·rw[Zh c];exact F
 by_cases h1:(Xd y).length=1
 ·obtain⟨k1,I⟩:=T6.1 h1;have hi:(Xd y)[0]? =some y:=by rw[On k1 I];rfl
  have hd:=ic a F (Xp _) (by omega) k1 I;rw[Xm]at hd;have a7:=Z1 x D;have hw:=Qe a (m:=x%y) (by omega);have P:y%18446744073709551616=y:=Zh (by omega);refine⟨_,_,Xu.of (a.Wa _ _ rfl) ((H.Xk.and (hd.Xk.and (hw.Xk.and a.Xk))).mono fun E K ⟨o,M,O,e⟩=> ?_),.Xn,.Xn⟩;simp only[Xo,Xr,reduceIte,Nat.reduceEqDiff,Nat.reduceLeDiff,x185,e,X4,o,M,O,Rq,c,l.len,h1,l.idx hi,P]
 have b2:2<=(Xd y).length:=by
  have :(Xd y).length≠0:=by rw[Ne,VE];omega
  omega
 obtain⟨m,hm⟩:∃m,(Xd y).length=m+2:=⟨(Xd y).length-2,by omega⟩;obtain⟨t1,t2,t3,t4⟩:=qu (n:=m+1) hm;obtain⟨w,ew⟩:∃w,w=y / 4294967296^(m+1):=⟨_,rfl⟩;rw[<-ew]at t1 t2 t3;obtain⟨d,ed⟩:∃d,d=4294967296 / (w+1):=⟨_,rfl⟩;obtain⟨U,b,A⟩:=Ca ew t2 t3 ed;have b1:=XN (Nat.le_of_not_lt c);obtain⟨N,eN⟩:∃N,(Xd x).length=N+(m+2):=⟨(Xd x).length-(m+2),by omega⟩;obtain⟨V,f⟩:∃V,V=y*d:=⟨_,rfl⟩;obtain⟨X,s⟩:∃X,X=x*d:=⟨_,rfl⟩;have g:0<V:=by rw[f];exact Yi D b
 rw[<-f]at U;have i:=U.2;have k:=Sv x;rw[eN]at k;have u:X<V*4294967296^(N+1):=by
  have J:X<4294967296^(N+(m+2))*d:=by rw[s];exact Yw k b
  have G:=Zn (d*4294967296^(N+1)) t4;have a4:4294967296^(m+1)*(d*4294967296^(N+1))=4294967296^(N+(m+2))*d:=by
   rw[Nat.mul_left_comm,<-Yu,show m+1+(N+1)=N+(m+2)by omega,ZR]
  rw[a4,<-Z3,<-f]at G;exact ZZ J G
 have W:X<4294967296^(N+(m+2)+1):=by
  rw[s,ZQ];exact Nat.mul_lt_mul'' k A
 have a5:(Xd V).length=m+2:=by
  have a1:=VK i;have J:y<=V:=by rw[f];exact YU _ b
  have G:=XN J;rw[hm]at G;omega
 have C:X / V=x / y:=by rw[s,f,Nat.mul_div_mul_right _ _ b]
 have a0:X%V / d=x%y:=by rw[s,f,Nat.mul_mod_mul_right,Nat.mul_div_cancel _ b]
 have v:X%V<4294967296^(m+2):=YE (Z1 _ g) i;have z:X%V<4294967296^(N+(m+2)+1):=ZZ v (VG (by omega));have a6:=Qe a (m:=d) (by omega);have a9:(Xd d).length<=2:=Oo (by omega);have c1:=cV a l (lb:=.Xn (Uy (Xd d))) .Xn (Xp _) (Xp _) (by omega);have c2:=cV a F (lb:=.Xn (Uy (Xd d))) .Xn (Xp _) (Xp _) (by omega);rw[Xm,Xm,<-f]at c1;rw[Xm,Xm,<-s]at c2;have c3:XS B fun E _=>∀j,j<N+1->pB E (.Xn (Uy (Xd V))) X V (N+(m+3)) m N j:=XS.all (N+1) fun j hj=>EN a rfl (by omega) (by omega) hj .Xn U g a5
 have c4:=SV a (ws:=dg (N+1) (x / y)) (by rw[Wd];omega);rw[Sh (by rw[<-C];exact Yl u)]at c4;have c5:=SV a (ws:=dg (N+(m+2)+1) (X%V)) (by rw[Wd];omega);rw[Sh z]at c5;have c6:=ic a (la:=.Xn (Uy (Xd (X%V)))) .Xn (Xp _) (by have:=VK v;omega) b A;rw[Xm,a0]at c6;refine⟨_,_,Xu.of (a.Wa _ _ rfl) ((H.Xk.and (a6.Xk.and (c1.Xk.and (c2.Xk.and (c3.and (c4.Xk.and (c5.Xk.and (c6.Xk.and (a.Xk.and (XS.ge (N+2))))))))))).mono fun E K ⟨o,M,O,e6,e7,e8,e9,L,e,hK⟩=> ?_),.Xn,.Xn⟩;obtain⟨T',t,g2,g3,g4⟩:=wz (K:=K) (d:=d) rfl (by omega) (by omega) e g i e7 (N+1) (Ze _) K (by omega);have d1:im X V (N+(m+3)) N (N+1)=[⟨false,0,1,Wl (dg (N+(m+2)+1) X),false,177⟩,⟨false,0,1,Wl (List.replicate (N+1) 0),false,177⟩]:=by
  unfold im;rw[Zh u,YH,show dg 0 (X / (V*4294967296^(N+1)))=[]from rfl,ZE];rfl
 have d2:im X V (N+(m+3)) N 0=[⟨false,0,1,Wl (dg (N+(m+3)) (X%V)),false,177⟩,⟨false,0,1,Wl (dg (N+1) (X / V)),false,177⟩]:=by
  unfold im;rw[Nat.pow_zero,Yr];rfl
 rw[d1,d2,C]at t;have f6:(Int.ofNat N:Int)=pI (N+1):=rfl;rw[<-f6]at t;have z1:N+(m+3)=N+(m+2)+1:=rfl;rw[z1]at t g3;have P:Xe .i64 (.ofNat (m+2)-.ofNat 1)=.ofNat (m+1):=by rw[Wi (by omega) (by omega)];rfl
 have f2:Xe .i64 (.ofNat (N+(m+2))-.ofNat (m+2))=.ofNat N:=by rw[Wi (by omega) (by omega),Yj]
 have f3:Xe .i64 (.ofNat (N+1))=.ofNat (N+1):=wrap_i64 (by omega);have f4:4*(N+1)<=lim:=by unfold lim;omega
 have f5:N+1<=9223372036854775807:=by omega
 have f7:Xe .i64 (.ofNat (N+(m+2)+1))=.ofNat (N+(m+2)+1):=wrap_i64 (by omega);have f8:4*(N+(m+2)+1)<=lim:=by unfold lim;omega
 have f9:N+(m+2)+1<=9223372036854775807:=by omega
 have Q:w%18446744073709551616=w:=Zh (by omega);have S:(w+1)%18446744073709551616=w+1:=Zh (by omega);have T:Tk .u64 (.ofNat 4294967296) (.ofNat (w+1))=some (.p (LC d)):=by
  show some (DL.p (.int .u64 (Xe .u64 (.ofNat (4294967296 / (w+1))))))=_;rw[<-ed,wrap_u64,Zh (by omega)]
 have n1:¬m+2=1:=by omega
 have Z:O4 0 1 0 0 0 (N+(m+2)+1) ⟨false,0,1,Wl (List.replicate (N+(m+2)+1) 0),false,177⟩ (Wl (Xd X)) []=some ⟨LB (Nat.min (N+(m+2)+1) (Wl (Xd X)).length),[],[(0,⟨false,0,1,Wl (dg (N+(m+2)+1) X),false,177⟩)],[0]⟩:=by
  have b0:=VK W;have e1:dg (N+(m+2)+1) X=Xd X++List.replicate (N+(m+2)+1-(Xd X).length) 0:=by
   refine(TZ (fun q hq=> ?_) (by simp;omega) ?_).symm
   ·rcases ZW.1 hq with h|h
    ·exact Xp X q h
    ·exact WG.replicate _ q h
   ·rw[PC,Xm,Ue,Nat.mul_zero,Z0]
  have e2:(Wl (List.replicate (N+(m+2)+1) 0)).length=N+(m+2)+1:=by rw[Vv];simp
  simp only[O4,e2,xU,Yg,Py (Ze _),Bool.not_false,Bool.and_true,cond_true,List.take_zero,ZF,show Nat.beq 0 0=true from rfl,show Nat.beq 1 1=true from rfl,Bool.true_or];rw[show(Wl (Xd X)).take (N+(m+2)+1)=Wl (Xd X)from Zd (by rw[Vv];omega),Vv,show Nat.min (N+(m+2)+1) (Xd X).length=(Xd X).length from Nat.min_eq_right (by omega),pZ,List.drop_replicate,e1];simp[Wl]
 have Y:∀h,Wv h (.p (.Xn (Uy (Xd X))))=some (Wl (Xd X),[]):=fun h=>by
  show some ((Uy (Xd X)).map (·.map DL.p),[])=_;rw[vW]
 obtain⟨cE,lK,oD,oS,oR,dS,dD,k1,I,k3,k4,k5,k6,k7,a8,R⟩:=SH;rw[<-I]at t;simp(decide:=true)only[TD,R,Vx,Xr,reduceIte,Nat.reduceAdd,x185,e,X4,o,M,O,e6,e8,e9,L,Rq,c,F.len,l.len,hm,eN,l.idx t1,P,f2,f3,f4,f5,f7,f8,f9,Q,S,T,n1,Y,Z,Ze,Tn,t,g2,g3,g4,Vv,Wd,Um,UA,Tx _ (YI (Wd (N+1) (x / y))),Tx _ (YI (Wd (N+(m+2)+1) (X%V)))]
def ky (z:Int):Prop:=(Xd z.natAbs).length<1000000000000
theorem ky.sm {z:Int}(h:ky z):Sm z:=by unfold ky at h;unfold Sm;omega
theorem sU {B:Xs}(d:Std B):∀(y x:Nat) (u v:PL),cK u x->cK v y->(Xd x).length<1000000000000->(Xd y).length<1000000000000->
  ∃(g:Bool) (r:PL),cK r (Nat.gcd x y)/\XS B fun E K=>∀(k:Nat),y<k->
   ∃j,Xb E K 0 [0,1] x161_1 k ⟨[(0,.one (.p u)),(1,.one (.p v))],[]⟩=
    (bif g then some (.ret,⟨j,[]⟩)else some (.exit 0,⟨j,[]⟩))/\(g=true->Xh j 4=some (.one (.p r)))/\(g=false->Xh j 0=some (.one (.p r))):=by
 intro y;induction y using Nat.strongRecOn with
 |ind y ih=>
  intro x u v l i hx A;rcases Yn y with h0|h0
  ·subst h0;refine⟨false,u,by rw[Nat.gcd_zero_right];exact l,XS.of fun K n k H=> ?_⟩;obtain⟨k,rfl⟩:∃o,k=o+1:=⟨k-1,by omega⟩;have c:=i.len;rw[Vn]at c;apply VO
   ·obtain⟨D,S,T,V,U,G,F,L,s,M,N,O,P,Q,a,R⟩:=SH;rw[<-s,a];simp only[TD,R,Xr,reduceIte,Nat.reduceEqDiff,x161_1,c,Zv];rfl
   ·simp only[Xo,reduceIte,Nat.reduceEqDiff,forall_const,Zy,false_implies,and_self]
  have f:0<(Xd y).length:=by
   have :(Xd y).length≠0:=by rw[Ne,VE];omega
   omega
  by_cases e:(Xd x).length<=2/\(Xd y).length<=2
  ·have v1:=eF d l (Xp x) e.1;have v2:=eF d i (Xp y) e.2;rw[Xm]at v1 v2;have W:=J8 e.1;have m:=J8 e.2;have hg:Nat.gcd x y<18446744073709551616:=Z7 (Nat.gcd_le_right x h0) m;have v3:=qP d W m;have v4:=Qe d hg;have t:=e.1;have C:=e.2;refine⟨true,.Xn (Uy (Xd (Nat.gcd x y))),.Xn,(v1.Xk.and (v2.Xk.and (v3.Xk.and (v4.Xk.and d.Xk)))).mono fun E K ⟨e1,e2,Z,e4,b⟩ k H=> ?_⟩;obtain⟨k,rfl⟩:∃o,k=o+1:=⟨k-1,by omega⟩;apply VO
   ·obtain⟨D,S,T,V,U,G,F,L,s,M,N,O,P,Q,a,R⟩:=SH;rw[<-s,a];simp only[TD,R,Xr,reduceIte,Nat.reduceEqDiff,x161_1,l.len,i.len,f,t,C,b,X4,e1,e2,Z,e4];rfl
   ·simp only[Xo,reduceIte,Nat.reduceEqDiff,Bool.true_eq_false,false_implies,forall_const,and_self]
  ·obtain⟨q,r,X,d2,Y⟩:=fc d l i hx A h0;have I:=Z1 x h0;have z:(Xd (x%y)).length<1000000000000:=Z7 (XN (Nat.le_of_lt I)) A;obtain⟨rt,r2,J,i3⟩:=ih (x%y) I y v r i Y A z;have eg:Nat.gcd x y=Nat.gcd y (x%y):=by rw[Nat.gcd_comm,Nat.gcd_rec,Nat.gcd_comm]
   rw[<-eg]at J;refine⟨rt,r2,J,(X.Xk.and (i3.and d.Xk)).mono fun E K ⟨e1,e2,b⟩ k H=> ?_⟩;obtain⟨k,rfl⟩:∃o,k=o+1:=⟨k-1,by omega⟩;obtain⟨j,w,g2⟩:=e2 k (by omega);refine⟨j,?_,g2⟩;obtain⟨D,S,T,V,U,G,F,L,s,M,N,O,P,Q,a,R⟩:=SH;rw[<-s]at w⊢;rw[a];by_cases t:(Xd x).length<=2
   ·have C:¬(Xd y).length<=2:=fun h=>e ⟨t,h⟩
    simp only[TD,R,Xr,reduceIte,Nat.reduceEqDiff,x161_1,l.len,i.len,f,t,C,b,X4,e1];exact w
   ·simp only[TD,R,Xr,reduceIte,Nat.reduceEqDiff,x161_1,l.len,i.len,f,t,b,X4,e1];exact w
theorem By {B:Xs}(a:Std B){c d:N'}{x y:Int}(u:Tw c x)(v:Tw d y)(o:ky x)(p:ky y):∃e,Xu B 123 [.agg c,.agg d] (.agg e)/\Tw e (Nat.gcd x.natAbs y.natAbs):=by
 obtain⟨m,rfl,w⟩:=u;obtain⟨n,rfl,A⟩:=v;unfold ky at o p;obtain⟨G,r,C,D⟩:=sU a y.natAbs x.natAbs m n w A o p;have j:(Xd (Nat.gcd x.natAbs y.natAbs)).length<10000000000000:=by
  rcases Yn y.natAbs with h|h
  ·rw[h,Nat.gcd_zero_right];omega
  ·have:=XN (Nat.gcd_le_right x.natAbs h);omega
 have q:Xu B 161 [.one m,.one n] (.one r):=by
  refine Xu.of (a.Wa _ _ rfl) ((D.and (a.Xk.and (XS.ge (y.natAbs+1)))).mono fun E K ⟨e1,z,M⟩=> ?_);obtain⟨H,b,g,i⟩:=e1 K (by omega);obtain⟨I,U,V,X,W,L,J,N,F,O,P,Q,S,T,t,R⟩:=SH;rw[<-F]at b;cases G with
  |true=>
   replace g:=g rfl
   rw[cond_true]at b;simp only[TD,R,Xr,reduceIte,Nat.reduceEqDiff,Nat.reduceLeDiff,x161,b,g]
  |false=>
   replace i:=i rfl
   rw[cond_false]at b;simp only[TD,R,Xr,reduceIte,Nat.reduceEqDiff,Nat.reduceLeDiff,x161,b,i]
 obtain⟨e,s,f⟩:=V8 a false C (Xp _) j;rw[Xm]at f
 replace f:Tw e (Nat.gcd x.natAbs y.natAbs):=by simpa using f
 refine⟨e,Xu.of (a.Wa _ _ rfl) ((q.Xk.and (s.Xk.and a.Xk)).mono fun E K ⟨e1,e2,k⟩=> ?_),f⟩;obtain⟨l,rfl,-⟩:=f;simp(decide:=true)only[Xo,Xr,reduceIte,Nat.reduceAdd,x123,k,X4,e1,e2]
theorem Az {B:Xs}(a:Std B){l:PL}{x:Nat}(s:cK l x)(b:(Xd x).length<1000000000000):Xu B 126 [.one l,.one (.Xn [[.int .u32 (.ofNat 1)]])] (.one (.Xn (Uy (Xd (x+1))))):=by
 have h:=nr a s (lb:=.Xn (Uy [1])) .Xn (Xp x) (WG.mk (by decide) WG.nil) (by omega) (by decide);rw[Xm]at h;exact h
theorem qX {B:Xs}(b:Std B){c d:N'}{x y:Int}(V:Tw c x)(W:Tw d y)(G:ky x)(H:ky y)(I:y≠0):∃e f,Xu B 162 [.agg c,.agg d] (.X9 [.agg e,.agg f,.one (LA 0)])/\Tw e (x / y)/\Tw f (x%y):=by
 obtain⟨m,rfl,X⟩:=V;obtain⟨n,rfl,t⟩:=W;unfold ky at G H;have u:0<y.natAbs:=by omega
 have o:(Xd y.natAbs).length≠0:=by rw[Ne,VE];omega
 obtain⟨q,r,L,M,z⟩:=fc b X t G H u;obtain⟨e1,e2⟩:=fb x I;have N:=Z1 x.natAbs u;have lq:(Xd (x.natAbs / y.natAbs)).length<1000000000000:=Z7 (XN (Nat.div_le_self ..)) G;have lr:(Xd (x.natAbs%y.natAbs)).length<1000000000000:=Z7 (XN (Nat.le_of_lt N)) H;by_cases g:x<0/\0<x.natAbs%y.natAbs
 ·have s1:=Az b M lq;have O:=cX b t z (Xp _) (Xp _) (XN (Nat.le_of_lt N)) (by omega) (by rw[Xm,Xm];omega);rw[Xm,Xm]at O;simp only[if_pos g]at e1 e2;have l1:(Xd (x.natAbs / y.natAbs+1)).length<10000000000000:=by
   have:=UQ (x.natAbs / y.natAbs) 1;rw[T6.2 (by decide:0<1/\1<4294967296)]at this;omega
  have l2:(Xd (y.natAbs-x.natAbs%y.natAbs)).length<10000000000000:=by
   have:=XN (Nat.sub_le y.natAbs (x.natAbs%y.natAbs));omega
  obtain⟨e,C,h⟩:=V8 b (decide (x<0)!=decide (y<0)) (l:=.Xn (Uy (Xd (x.natAbs / y.natAbs+1)))) .Xn (Xp _) l1;obtain⟨f,D,a⟩:=V8 b false (l:=.Xn (Uy (Xd (y.natAbs-x.natAbs%y.natAbs)))) .Xn (Xp _) l2;rw[Xm]at h a;rw[<-e1]at h
  replace a:Tw f (x%y):=by rw[e2];simpa using a
  have p:((decide (x<0)==decide (y<0))!=true)=(decide (x<0)!=decide (y<0)):=by cases decide (x<0)<;>cases decide (y<0)<;>rfl
  obtain⟨z1,z2,A⟩:=h.len;obtain⟨z3,z4,k⟩:=a.len;subst A k;have s:=g.1;have J:0<(Xd (x.natAbs%y.natAbs)).length:=by
   have :(Xd (x.natAbs%y.natAbs)).length≠0:=by rw[Ne,VE];omega
   omega
  refine⟨_,_,Xu.of (b.Wa _ _ rfl) ((L.Xk.and (s1.Xk.and (O.Xk.and (C.Xk.and (D.Xk.and b.Xk))))).mono fun E K ⟨v,P,Q,j,w,i⟩=> ?_),h,a⟩;simp only[s,decide_true]at j p;obtain⟨S,lK,oD,oS,oR,U,T,Y,Z,k3,k4,k5,k6,k7,F,R⟩:=SH;simp(decide:=true)only[TD,R,Xr,reduceIte,Nat.reduceAdd,x162,i,X4,v,P,Q,j,w,t.len,o,s,J,z.len,p]
 ·obtain⟨e,C,h⟩:=V8 b (decide (x<0)!=decide (y<0)) M (Xp _) (by omega);obtain⟨f,D,a⟩:=V8 b false z (Xp _) (by omega);simp only[if_neg g]at e1 e2;rw[Xm]at h a;rw[<-e1]at h
  replace a:Tw f (x%y):=by rw[e2];simpa using a
  have p:((decide (x<0)==decide (y<0))!=true)=(decide (x<0)!=decide (y<0)):=by cases decide (x<0)<;>cases decide (y<0)<;>rfl
  obtain⟨z1,z2,A⟩:=h.len;obtain⟨z3,z4,k⟩:=a.len;subst A k;refine⟨_,_,Xu.of (b.Wa _ _ rfl) ((L.Xk.and (C.Xk.and (D.Xk.and b.Xk))).mono fun E K ⟨v,j,w,i⟩=> ?_),h,a⟩;obtain⟨S,lK,oD,oS,oR,U,T,Y,Z,k3,k4,k5,k6,k7,F,R⟩:=SH;by_cases s:x<0
  ·have J:¬0<(Xd (x.natAbs%y.natAbs)).length:=by
    have :(Xd (x.natAbs%y.natAbs)).length=0:=by rw[VE];omega
    omega
   simp only[s,decide_true]at j p;simp(decide:=true)only[TD,R,Xr,reduceIte,Nat.reduceAdd,x162,i,X4,v,j,w,t.len,o,s,J,z.len,p]
  ·simp only[s,decide_false]at j p;simp(decide:=true)only[TD,R,Xr,reduceIte,Nat.reduceAdd,x162,i,X4,v,j,w,t.len,o,s,p]
theorem NJ {B:Xs}(a:Std B){c d:N'}{x y:Int}(i:Tw c x)(j:Tw d y)(r:ky x)(s:ky y)(g:y≠0):∃e,Xu B 125 [.agg c,.agg d] (.agg e)/\Tw e (x / y):=by
 obtain⟨e,f,p,h,q⟩:=qX a i j r s g;obtain⟨t,u,l⟩:=i.len;obtain⟨v,w,m⟩:=j.len;obtain⟨e1,e2,n⟩:=h.len;obtain⟨z,A,o⟩:=q.len;subst l m n o;refine⟨_,Xu.of (a.Wa _ _ rfl) ((p.Xk.and a.Xk).mono fun E K ⟨k,b⟩=> ?_),h⟩;simp(decide:=true)only[Xo,Xr,reduceIte,Nat.reduceAdd,x125,b,X4,k]
theorem nC {a b:Nat}{k:Nat}(c:0<b)(h:(Xd b).length<k):(Xd (Nat.gcd a b)).length<k:=Z7 (XN (Nat.gcd_le_right a c)) h
theorem OB {B:Xs}(a:Std B){c d:N'}{n k:Int}(t:Tw c n)(p:Tw d k)(D:ky n)(q:ky k)(h:k≠0):∃e,Xu B 74 [.agg c,.agg d] (.agg e)/\Ri e (Rat.divInt n k):=by
 obtain⟨g,M,u⟩:=By a t p D q;have s:=dt a p;have r:0<k.natAbs:=by omega
 have b:ky (Nat.gcd n.natAbs k.natAbs:Nat):=by unfold ky at q⊢;rw[Z9];exact nC r q
 have T:0<Nat.gcd n.natAbs k.natAbs:=Nat.gcd_pos_of_pos_right _ r;have O:((Nat.gcd n.natAbs k.natAbs:Nat):Int) ∣ n:=Int.ofNat_dvd_left.2 (Nat.gcd_dvd_left ..);have N:((Nat.gcd n.natAbs k.natAbs:Nat):Int) ∣ k:=Int.ofNat_dvd_left.2 (Nat.gcd_dvd_right ..);have L:(Rat.divInt n k).num=k.sign*n / ((Nat.gcd n.natAbs k.natAbs:Nat):Int):=by
  rw[Rat.num_divInt];congr 2;exact Nat.gcd_comm ..
 have J:((Rat.divInt n k).den:Int)=(k.natAbs:Int) / ((Nat.gcd n.natAbs k.natAbs:Nat):Int):=by
  rw[Rat.den_divInt,if_neg h,<-Int.natCast_ediv];congr 2;exact Nat.gcd_comm ..
 obtain⟨U,V,G⟩:=t.len;obtain⟨W,X,H⟩:=p.len;obtain⟨Z,g2,I⟩:=u.len;rcases Int.lt_or_lt_of_ne h with hs|hs
 ·obtain⟨Y,S,m⟩:=Bt a u b.sm;have i:ky (-((Nat.gcd n.natAbs k.natAbs:Nat):Int)):=by unfold ky at b⊢;rw[Int.natAbs_neg];exact b
  obtain⟨e,A,j⟩:=NJ a t m D i (by omega);obtain⟨f,C,l⟩:=NJ a p m q i (by omega);rw[show n / -((Nat.gcd n.natAbs k.natAbs:Nat):Int)=(Rat.divInt n k).num by rw[L,Int.sign_eq_neg_one_of_neg hs,Int.neg_mul,Int.one_mul,Int.ediv_neg,Int.neg_ediv_of_dvd O]]at j;rw[show k / -((Nat.gcd n.natAbs k.natAbs:Nat):Int)=((Rat.divInt n k).den:Int)by rw[J,show(k.natAbs:Int)= -k by omega,Int.ediv_neg,Int.neg_ediv_of_dvd N]]at l;obtain⟨e1,e2,x⟩:=j.len;obtain⟨Q,R,y⟩:=l.len;obtain⟨g3,g4,z⟩:=m.len;subst G H I x y z;have F:nS k=.negSucc 0:=by unfold nS;rw[if_neg h,if_pos hs]
  rw[F]at s;refine⟨_,Xu.of (a.Wa _ _ rfl) ((M.Xk.and (s.Xk.and (A.Xk.and (C.Xk.and (S.Xk.and a.Xk))))).mono fun E K ⟨e1,e2,v,w,P,o⟩=> ?_),⟨_,_,_,_,rfl,j,l⟩⟩;simp(decide:=true)only[Xo,Xr,reduceIte,Nat.reduceAdd,x74,o,X4,e1,e2,v,w,P]
 ·obtain⟨e,A,j⟩:=NJ a t u D b (by omega);obtain⟨f,C,l⟩:=NJ a p u q b (by omega);rw[show n / ((Nat.gcd n.natAbs k.natAbs:Nat):Int)=(Rat.divInt n k).num by rw[L,Int.sign_eq_one_of_pos hs,Int.one_mul]]at j;rw[show k / ((Nat.gcd n.natAbs k.natAbs:Nat):Int)=((Rat.divInt n k).den:Int)by rw[J,show(k.natAbs:Int)=k by omega]]at l;obtain⟨e1,e2,x⟩:=j.len;obtain⟨Q,R,y⟩:=l.len;subst G H I x y;have F:nS k=.ofNat 1:=by unfold nS;rw[if_neg h,if_neg (by omega)]
  rw[F]at s;refine⟨_,Xu.of (a.Wa _ _ rfl) ((M.Xk.and (s.Xk.and (A.Xk.and (C.Xk.and a.Xk)))).mono fun E K ⟨e1,e2,v,w,o⟩=> ?_),⟨_,_,_,_,rfl,j,l⟩⟩;simp(decide:=true)only[Xo,Xr,reduceIte,Nat.reduceAdd,x74,o,X4,e1,e2,v,w]
theorem PW {x y:Int}{a b:Nat}(c:(Xd x.natAbs).length<a)(d:(Xd y.natAbs).length<b):(Xd (x*y).natAbs).length<a+b:=by
 rw[Yq];have:=UP x.natAbs y.natAbs;omega
theorem Sq.uR {x:Rat}(h:Sq x):(Xd x.num.natAbs).length<200000000000:=h.1
theorem Sq.oY {x:Rat}(h:Sq x):(Xd (x.den:Int).natAbs).length<200000000000:=by rw[Z9];exact h.2
theorem ab {x:Int}(h:(Xd x.natAbs).length<1000000000000):ky x:=h
theorem Hl {B:Xs}(a:Std B){c d:N'}{x y:Rat}(M:Ri c x)(N:Ri d y)(b:Sq x)(f:Sq y):∃e,Xu B 36 [.agg c,.agg d] (.agg e)/\Ri e (x+y):=by
 obtain⟨n1,Y,n2,m2,rfl,i,g⟩:=M;obtain⟨n3,Z,n4,m4,rfl,j,h⟩:=N;obtain⟨p,H,n⟩:=Qf a i h b.num f.den;obtain⟨q,I,o⟩:=Qf a j g f.num b.den;obtain⟨r,J,t⟩:=Qf a g h b.den f.den;have s1:=PW b.uR f.oY;have s2:=PW f.uR b.oY;have s3:=PW b.oY f.oY;obtain⟨s,L,u⟩:=BJ a n o (by unfold Sm;omega) (by unfold Sm;omega);have S:ky (x.num*y.den+y.num*x.den):=by
  unfold ky;have m:=XN (Int.natAbs_add_le (x.num*y.den) (y.num*x.den));have X:=UQ (x.num*y.den).natAbs (y.num*x.den).natAbs;omega
 have P:(x.den:Int)*y.den≠0:=Int.mul_ne_zero (by have:=x.den_nz;omega) (by have:=y.den_nz;omega);obtain⟨e,m,k⟩:=OB a u t S (ab (by omega)) P;rw[<-Int.natCast_mul,Rat.divInt_ofNat,<-Rat.add_def']at k;obtain⟨p1,p2,C⟩:=n.len;obtain⟨q1,q2,D⟩:=o.len;obtain⟨r1,r2,F⟩:=t.len;obtain⟨Q,R,G⟩:=u.len;have l:=k;obtain⟨T,U,V,W,A,-,-⟩:=l;subst C D F G A;refine⟨_,Xu.of (a.Wa _ _ rfl) ((H.Xk.and (I.Xk.and (J.Xk.and (L.Xk.and (m.Xk.and a.Xk))))).mono fun E K ⟨e1,e2,v,w,z,O⟩=> ?_),k⟩;simp(decide:=true)only[Xo,Xr,reduceIte,Nat.reduceAdd,x36,O,X4,e1,e2,v,w,z]
theorem Hj {B:Xs}(a:Std B){c d:N'}{x y:Rat}(A:Ri c x)(C:Ri d y)(b:Sq x)(f:Sq y):∃e,Xu B 91 [.agg c,.agg d] (.agg e)/\Ri e (x*y):=by
 obtain⟨O,L,P,m2,rfl,g,h⟩:=A;obtain⟨Q,M,R,N,rfl,i,j⟩:=C;obtain⟨p,v,m⟩:=Qf a g i b.num f.num;obtain⟨r,w,n⟩:=Qf a h j b.den f.den;have W:=PW b.uR f.uR;have X:=PW b.oY f.oY;have F:(x.den:Int)*y.den≠0:=Int.mul_ne_zero (by have:=x.den_nz;omega) (by have:=y.den_nz;omega);obtain⟨e,z,k⟩:=OB a m n (ab (by omega)) (ab (by omega)) F;rw[<-Int.natCast_mul,Rat.divInt_ofNat,<-Rat.mul_def']at k;obtain⟨S,T,t⟩:=m.len;obtain⟨U,V,u⟩:=n.len;have l:=k;obtain⟨G,H,I,J,s,-,-⟩:=l;subst t u s;refine⟨_,Xu.of (a.Wa _ _ rfl) ((v.Xk.and (w.Xk.and (z.Xk.and a.Xk))).mono fun E K ⟨e1,o,q,D⟩=> ?_),k⟩;simp(decide:=true)only[Xo,Xr,reduceIte,Nat.reduceAdd,x91,D,X4,e1,o,q]
theorem nX {B:Xs}(a:Std B){c:N'}{x:Rat}(e:Ri c x):Xu B 37 [.agg c] (.one (.int .i64 (nS x.num))):=by
 obtain⟨i,h,j,m2,rfl,b,f⟩:=e;have d:=dt a b;refine Xu.of (a.Wa _ _ rfl) ((d.Xk.and a.Xk).mono fun E K ⟨e1,g⟩=> ?_);simp(decide:=true)only[Xo,Xr,reduceIte,Nat.reduceAdd,x37,g,X4,e1]
theorem BK {B:Xs}(b:Std B){c d:N'}{n k:Int}(h:Tw c n)(f:Tw d k)(s:ky n)(q:ky k)(a:k≠0):∃e,Xu B 167 [.agg c,.agg d] (.X9 [.agg e,.one (LA 0)])/\Ri e (Rat.divInt n k):=by
 obtain⟨e,o,i⟩:=OB b h f s q a;have p:=dt b f;have g:=i;obtain⟨u,v,w,x,m,-,-⟩:=g;obtain⟨y,z,j⟩:=h.len;obtain⟨A,C,l⟩:=f.len;subst j l m;have t:Oi (nS k) (.ofNat 0)=false:=by
  unfold nS;rw[if_neg a];split<;>rfl
 refine⟨_,Xu.of (b.Wa _ _ rfl) ((o.Xk.and (p.Xk.and b.Xk)).mono fun E K ⟨e1,e2,r⟩=> ?_),i⟩;simp(decide:=true)only[Xo,Xr,reduceIte,Nat.reduceAdd,x167,r,X4,e1,e2,t]
theorem Hk {B:Xs}(a:Std B){c d:N'}{x y:Rat}(D:Ri c x)(F:Ri d y)(b:Sq x)(f:Sq y)(h0:y≠0):∃e,Xu B 150 [.agg c,.agg d] (.X9 [.agg e,.one (LA 0)])/\Ri e (x / y):=by
 obtain⟨R,O,S,m2,rfl,g,i⟩:=D;obtain⟨T,P,U,Q,rfl,j,k⟩:=F;have n:y.num≠0:=fun h=>h0 (Rat.num_eq_zero.1 h)
 obtain⟨p,z,o⟩:=Qf a g k b.num f.den;obtain⟨r,A,q⟩:=Qf a i j b.den f.num;have Z:=PW b.uR f.oY;have s3:=PW b.oY f.uR;have I:(x.den:Int)*y.num≠0:=Int.mul_ne_zero (by have:=x.den_nz;omega) n;obtain⟨e,C,l⟩:=BK a o q (ab (by omega)) (ab (by omega)) I;have H:Rat.divInt (x.num*y.den) (x.den*y.num)=x / y:=by
  rw[Rat.div_def,Rat.inv_def,<-Rat.divInt_mul_divInt,Rat.num_divInt_den]
 rw[H]at l;obtain⟨V,W,v⟩:=o.len;obtain⟨X,Y,w⟩:=q.len;have m:=l;obtain⟨J,L,M,N,u,-,-⟩:=m;subst v w u;refine⟨_,Xu.of (a.Wa _ _ rfl) ((z.Xk.and (A.Xk.and (C.Xk.and a.Xk))).mono fun E K ⟨e1,s,t,G⟩=> ?_),l⟩;simp(decide:=true)only[Xo,Xr,reduceIte,Nat.reduceAdd,x150,G,X4,e1,s,t]
theorem Rm {B:Xs}(h:Std B){x:Int}(i:DE x):∃c,Xu B 18 [.one (.int .i64 x)] (.agg c)/\Ri c (x:Rat):=by
 obtain⟨c,a,n,m,d,e,b,f,g⟩:=uC h i;exact⟨c,a,n,m,d,e,b,f,g⟩
end Go.Proofs.YtidginchkjhobaaGreat
