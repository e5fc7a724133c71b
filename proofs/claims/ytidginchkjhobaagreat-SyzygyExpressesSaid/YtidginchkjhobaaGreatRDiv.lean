/- The reference's integers: the digit of a quotient, guessed (written by gen_rdiv1.py). -/
import Derived.Test.YtidginchkjhobaaGreatRat
set_option maxHeartbeats 16000000
set_option maxRecDepth 100000
namespace Go.Ev
open Go.Proofs.YtidginchkjhobaaGreat
theorem mB {r}(h:r<4294967296):r*4294967296%18446744073709551616=r*4294967296:=by omega
theorem Lx {r u}(h:r<4294967296)(a:u<4294967296):(r*4294967296+u)%18446744073709551616=r*4294967296+u:=by omega
section
variable {E:Xa}{K:Nat}{H:V'}{lu lv:PL}{m k:Nat}{U V:P'}{v1 v2 u2 p q r:Nat}
theorem AK (S:UB lu U)(n:UB lv V)(J:m<10000000000000)(f:V[m+1]? =some v1)(z:V[m]? =some v2)(A:U[m]? =some u2)(o:v1<4294967296)(q:v2<4294967296)(b:u2<4294967296)(a:r<4294967296)(L:p<=4294967298)(j:4294967296<=p+1)(i:¬4294967296<=r+v1):Xb E K 0 [0,1,5,7,8] x195_1 (k+1) ⟨[(0,La4 lu),(1,La4 lv),(5,La1 (m+2)),(7,La3 (p+1)),(8,La3 r)],H⟩=Xb E K 0 [0,1,5,7,8] x195_1 k ⟨[(0,La4 lu),(1,La4 lv),(5,La1 (m+2)),(7,La3 p),(8,La3 (r+v1))],H⟩:=by
 have Q:Xd .i64 (.ofNat (m+2)-.ofNat 2)=.ofNat m:=by rw[X9 (by omega) (by omega)];rfl
 have l:Xd .i64 (.ofNat (m+2)-.ofNat 1)=.ofNat (m+1):=by rw[X9 (by omega) (by omega)];rfl
 have c:v1%18446744073709551616=v1:=Zi (by omega);have v:v2%18446744073709551616=v2:=Zi (by omega);have w:u2%18446744073709551616=u2:=Zi (by omega);have e:(r+v1)%18446744073709551616=r+v1:=Zi (by omega);have x:r*4294967296%18446744073709551616=r*4294967296:=mB a;have y:(r*4294967296+u2)%18446744073709551616=r*4294967296+u2:=Lx a b;have d:Xd .u64 (.ofNat (p+1)-.ofNat 1)=.ofNat p:=by grind [wrap_u64]
 obtain⟨s,M,N,P,O,u,t,B,g,C,D,F,G,I,h,R⟩:=SZ;rw[<-g,h];simp only[TP,R,Xs,reduceIte,Nat.reduceEqDiff,Nat.reduceAdd,x195_1,l,n.idx f,c,d,e,j,i]
theorem we (T:UB lu U)(o:UB lv V)(L:m<10000000000000)(g:V[m+1]? =some v1)(A:V[m]? =some v2)(B:U[m]? =some u2)(q:v1<4294967296)(s:v2<4294967296)(c:u2<4294967296)(b:r<4294967296)(M:p<=4294967298)(l:4294967296<=p+1)(j:4294967296<=r+v1):∃a,Xb E K 0 [0,1,5,7,8] x195_1 (k+1) ⟨[(0,La4 lu),(1,La4 lv),(5,La1 (m+2)),(7,La3 (p+1)),(8,La3 r)],H⟩=some (.exit 0,⟨a,H⟩)/\Xi a 7=some (La3 p):=by
 have S:Xd .i64 (.ofNat (m+2)-.ofNat 2)=.ofNat m:=by rw[X9 (by omega) (by omega)];rfl
 have n:Xd .i64 (.ofNat (m+2)-.ofNat 1)=.ofNat (m+1):=by rw[X9 (by omega) (by omega)];rfl
 have d:v1%18446744073709551616=v1:=Zi (by omega);have w:v2%18446744073709551616=v2:=Zi (by omega);have x:u2%18446744073709551616=u2:=Zi (by omega);have f:(r+v1)%18446744073709551616=r+v1:=Zi (by omega);have y:r*4294967296%18446744073709551616=r*4294967296:=mB b;have z:(r*4294967296+u2)%18446744073709551616=r*4294967296+u2:=Lx b c;have e:Xd .u64 (.ofNat (p+1)-.ofNat 1)=.ofNat p:=by grind [wrap_u64]
 apply VW
 ·obtain⟨t,N,O,Q,P,v,u,C,h,D,F,G,I,J,i,R⟩:=SZ;rw[<-h,i];simp only[TP,R,Xs,reduceIte,Nat.reduceEqDiff,Nat.reduceAdd,x195_1,n,o.idx g,d,e,f,l,j];rfl
 ·simp only[Xo,reduceIte,Nat.reduceEqDiff]
theorem AJ (D:UB lu U)(b:UB lv V)(S:m<10000000000000)(o:V[m+1]? =some v1)(q:V[m]? =some v2)(s:U[m]? =some u2)(F:v1<4294967296)(c:v2<4294967296)(d:u2<4294967296)(a:r<4294967296)(y:¬4294967296<=p+1)(A:r*4294967296+u2<(p+1)*v2)(w:¬4294967296<=r+v1):Xb E K 0 [0,1,5,7,8] x195_1 (k+1) ⟨[(0,La4 lu),(1,La4 lv),(5,La1 (m+2)),(7,La3 (p+1)),(8,La3 r)],H⟩=Xb E K 0 [0,1,5,7,8] x195_1 k ⟨[(0,La4 lu),(1,La4 lv),(5,La1 (m+2)),(7,La3 p),(8,La3 (r+v1))],H⟩:=by
 have C:Xd .i64 (.ofNat (m+2)-.ofNat 2)=.ofNat m:=by rw[X9 (by omega) (by omega)];rfl
 have B:Xd .i64 (.ofNat (m+2)-.ofNat 1)=.ofNat (m+1):=by rw[X9 (by omega) (by omega)];rfl
 have e:v1%18446744073709551616=v1:=Zi (by omega);have f:v2%18446744073709551616=v2:=Zi (by omega);have g:u2%18446744073709551616=u2:=Zi (by omega);have i:(r+v1)%18446744073709551616=r+v1:=Zi (by omega);have l:r*4294967296%18446744073709551616=r*4294967296:=mB a;have n:(r*4294967296+u2)%18446744073709551616=r*4294967296+u2:=Lx a d;have h:Xd .u64 (.ofNat (p+1)-.ofNat 1)=.ofNat p:=by grind [wrap_u64]
 have j:(p+1)*v2%18446744073709551616=(p+1)*v2:=by
  have:=RG (x:=p+1) (by omega) c (z:=0) (u:=0) (by omega) (by omega);omega
 obtain⟨G,T,W,Y,X,J,I,L,t,M,N,O,P,Q,v,R⟩:=SZ;rw[<-t,v];simp only[TP,R,Xs,reduceIte,Nat.reduceEqDiff,Nat.reduceAdd,x195_1,B,C,b.idx o,b.idx q,D.idx s,e,f,g,h,i,j,l,n,y,A,w]
theorem wc (F:UB lu U)(c:UB lv V)(T:m<10000000000000)(q:V[m+1]? =some v1)(s:V[m]? =some v2)(t:U[m]? =some u2)(G:v1<4294967296)(d:v2<4294967296)(e:u2<4294967296)(b:r<4294967296)(A:¬4294967296<=p+1)(B:r*4294967296+u2<(p+1)*v2)(y:4294967296<=r+v1):∃a,Xb E K 0 [0,1,5,7,8] x195_1 (k+1) ⟨[(0,La4 lu),(1,La4 lv),(5,La1 (m+2)),(7,La3 (p+1)),(8,La3 r)],H⟩=some (.exit 0,⟨a,H⟩)/\Xi a 7=some (La3 p):=by
 have D:Xd .i64 (.ofNat (m+2)-.ofNat 2)=.ofNat m:=by rw[X9 (by omega) (by omega)];rfl
 have C:Xd .i64 (.ofNat (m+2)-.ofNat 1)=.ofNat (m+1):=by rw[X9 (by omega) (by omega)];rfl
 have f:v1%18446744073709551616=v1:=Zi (by omega);have g:v2%18446744073709551616=v2:=Zi (by omega);have h:u2%18446744073709551616=u2:=Zi (by omega);have j:(r+v1)%18446744073709551616=r+v1:=Zi (by omega);have n:r*4294967296%18446744073709551616=r*4294967296:=mB b;have o:(r*4294967296+u2)%18446744073709551616=r*4294967296+u2:=Lx b e;have i:Xd .u64 (.ofNat (p+1)-.ofNat 1)=.ofNat p:=by grind [wrap_u64]
 have l:(p+1)*v2%18446744073709551616=(p+1)*v2:=by
  have:=RG (x:=p+1) (by omega) d (z:=0) (u:=0) (by omega) (by omega);omega
 apply VW
 ·obtain⟨I,W,X,Z,Y,L,J,M,v,N,O,P,Q,S,w,R⟩:=SZ;rw[<-v,w];simp only[TP,R,Xs,reduceIte,Nat.reduceEqDiff,Nat.reduceAdd,x195_1,C,D,c.idx q,c.idx s,F.idx t,f,g,h,i,j,l,n,o,A,B,y];rfl
 ·simp only[Xo,reduceIte,Nat.reduceEqDiff]
theorem Dl (u:UB lu U)(v:UB lv V)(M:m<10000000000000)(C:V[m+1]? =some v1)(i:V[m]? =some v2)(j:U[m]? =some u2)(w:v1<4294967296)(x:v2<4294967296)(c:u2<4294967296)(b:r<4294967296)(o:¬4294967296<=q)(s:¬r*4294967296+u2<q*v2):∃a,Xb E K 0 [0,1,5,7,8] x195_1 (k+1) ⟨[(0,La4 lu),(1,La4 lv),(5,La1 (m+2)),(7,La3 q),(8,La3 r)],H⟩=some (.exit 0,⟨a,H⟩)/\Xi a 7=some (La3 q):=by
 have t:Xd .i64 (.ofNat (m+2)-.ofNat 2)=.ofNat m:=by rw[X9 (by omega) (by omega)];rfl
 have S:Xd .i64 (.ofNat (m+2)-.ofNat 1)=.ofNat (m+1):=by rw[X9 (by omega) (by omega)];rfl
 have B:v1%18446744073709551616=v1:=Zi (by omega);have d:v2%18446744073709551616=v2:=Zi (by omega);have e:u2%18446744073709551616=u2:=Zi (by omega);have g:r*4294967296%18446744073709551616=r*4294967296:=mB b;have h:(r*4294967296+u2)%18446744073709551616=r*4294967296+u2:=Lx b c;have f:q*v2%18446744073709551616=q*v2:=by
  omega
 apply VW
 ·obtain⟨y,N,O,Q,P,A,z,D,l,F,G,I,J,L,n,R⟩:=SZ;rw[<-l,n];simp only[TP,R,Xs,reduceIte,Nat.reduceEqDiff,Nat.reduceAdd,x195_1,t,v.idx i,u.idx j,d,e,f,g,h,o,s];rfl
 ·simp only[Xo,reduceIte,Nat.reduceEqDiff]
theorem sN (C:UB lu U)(D:UB lv V)(y:m<10000000000000)(u:V[m+1]? =some v1)(v:V[m]? =some v2)(w:U[m]? =some u2)(s:v1<4294967296)(g:v2<4294967296)(t:u2<4294967296){a}(F:a<v1*4294967296+4294967296):∀d q r,q*v1+r=a->r<4294967296->q<=4294967298->4294967296<=r+d*v1->(4294967296<=q+1\/a*4294967296+u2<(q+1)*(v1*4294967296+v2))->∀k,d<k->
  ∃b o,Xb E K 0 [0,1,5,7,8] x195_1 k ⟨[(0,La4 lu),(1,La4 lv),(5,La1 (m+2)),(7,La3 q),(8,La3 r)],H⟩=some (.exit 0,⟨b,H⟩)/\Xi b 7=some (La3 o)/\vt v1 v2 a u2 o:=by
 intro d;induction d with
 |zero=>omega
 |succ d G=>
  intro q r e z N J M k L;rcases k with _|k;omega;by_cases n:4294967296<=q
  ·obtain⟨p,rfl⟩:∃p,q=p+1:=⟨q-1,by omega⟩;have i:p*v1+(r+v1)=a:=by grind
   by_cases j:4294967296<=r+v1
   ·obtain⟨A,B⟩:=QW (u2:=u2) i j g F;obtain⟨b,c,f⟩:=we (E:=E) (K:=K) (k:=k) (H:=H) C D y u v w s g t z (by omega) n j;exact⟨b,p,c,f,A,B,.inl (by omega)⟩
   ·obtain⟨b,o,c,f⟩:=G p (r+v1) i (by omega) (by omega) (by grind) (.inl n) k (by omega)
    grind [AK]
  ·by_cases x:r*4294967296+u2<q*v2
   ·obtain⟨p,rfl⟩:∃p,q=p+1:=by
     rcases Yk q with h|h
     ·subst h;omega
     simp_all
    have i:p*v1+(r+v1)=a:=by grind
    have l:=kz e x;by_cases j:4294967296<=r+v1
    ·obtain⟨A,B⟩:=QW (u2:=u2) i j g F;obtain⟨b,c,f⟩:=wc (E:=E) (K:=K) (k:=k) (H:=H) C D y u v w s g t z n x j;exact⟨b,p,c,f,A,B,.inr l⟩
    ·obtain⟨b,o,c,f⟩:=G p (r+v1) i (by omega) (by omega) (by grind) (.inr l) k (by omega)
     grind [AJ]
   ·obtain⟨b,c,f⟩:=Dl (E:=E) (K:=K) (k:=k) (H:=H) C D y u v w s g t z n x;refine⟨b,q,c,f,by omega,bp e (by omega),?_⟩;omega
end
theorem Bu {B}(hB:Std B){lu lv}{x y}{m U V}(su:UB lu x)(sv:UB lv y)(b0:y.length=m+2)(hm:m<2000000000000)(hN:vp V (m+2))(hU:U<V*4294967296)
  (hV:∀i,i<m+2->y[i]? =some (V / 4294967296^i%4294967296)) (hu:∀i,i<m+3->x[i]? =some (U / 4294967296^i%4294967296)):
  ∃q,Xv B 195 [.one lu,.one lv] (.one (La2 q))/\q<4294967296/\U / V<=q/\q<=U / V+1:=by
 have a9:=hN.2;have b6:U<4294967296^(m+3):=by
  have:=Yl a9 (show 0<4294967296 by decide);rw[<-ZI]at this
  grind
 obtain⟨v1,s⟩:∃v1,v1=V / 4294967296^(m+1):=⟨_,rfl⟩;have a0:v1<4294967296:=by simp_all [Su]
 obtain⟨v2,C⟩:∃v2,v2=V / 4294967296^m%4294967296:=⟨_,rfl⟩;have a4:v2<4294967296:=by omega
 obtain⟨g,a8⟩:∃g,g=U / 4294967296^(m+2):=⟨_,rfl⟩;have Z:g<4294967296:=by simp_all [Su]
 obtain⟨o,a5⟩:∃o,o=U / 4294967296^(m+1)%4294967296:=⟨_,rfl⟩;have b5:o<4294967296:=by omega
 obtain⟨u2,A⟩:∃u2,u2=U / 4294967296^m%4294967296:=⟨_,rfl⟩;have Y:u2<4294967296:=by omega
 obtain⟨a,z⟩:∃a,a=g*4294967296+o:=⟨_,rfl⟩;have b:a=U / 4294967296^(m+1):=by grind [NO]
 have d:=nS hN;have c:=CF (m:=m) hU;rw[<-s]at d c;rw[<-b]at c;have l:y[m+1]? =some v1:=by grind
 have J:y[m]? =some v2:=by grind
 have I:x[m+2]? =some g:=by grind
 have F:x[m+1]? =some o:=by grind
 have G:x[m]? =some u2:=by grind
 obtain⟨w,rfl⟩:∃w,v1=w+1:=⟨v1-1,by omega⟩;have D:=Yo a (w+1);have L:=ZN a (show 0<w+1 by omega);obtain⟨k,r⟩:∃k,k=a / (w+1):=⟨_,rfl⟩;obtain⟨O,j⟩:∃O,O=a%(w+1):=⟨_,rfl⟩;rw[<-r,<-j]at D;rw[<-j]at L;have M:k<=4294967298:=by
  rcases Z8 4294967298 k with h|h
  ·exfalso;have:=ZE (w+1) (show 4294967299<=k from h);omega
  ·exact h
 have f:a*4294967296+u2<(k+1)*((w+1)*4294967296+v2):=by
  grind
 have N:∃q,q<4294967296/\U / V<=q/\q<=U / V+1/\∀(E:Xa) (K:Nat),3<=K->∃P,Xb E K 0 [0,1,5,7,8] x195_1 K ⟨[(0,La4 lu),(1,La4 lv),(5,La1 (m+2)),(7,La3 k),(8,La3 O)],[]⟩=some (.exit 0,⟨P,[]⟩)/\Xi P 7=some (La3 q):=by
  have e:=fun(E:Xa) (K:Nat) (S:3<=K)=>sN (E:=E) (K:=K) (H:=[]) su sv (by omega) l J G a0 a4 Y c 2 k O (by grind) (by omega) M (by omega) (.inr f) K (by omega)
  have b4:∀q v,vt (w+1) v2 a u2 q->vt (w+1) v2 a u2 v->q=v:=by
   intro q v ⟨T,a2,W⟩ ⟨b1,b2,Q⟩;rcases Nat.lt_trichotomy q v with h|h|h
   ·exfalso;rcases W with W|W
    ·omega
    ·have:=Zm ((w+1)*4294967296+v2) (show q+1<=v from h);omega
   ·exact h
   ·exfalso;rcases Q with Q|Q
    ·omega
    ·have:=Zm ((w+1)*4294967296+v2) (show v+1<=q from h);omega
  obtain⟨T0,q,-,-,X⟩:=e (B.E 3 3) 3 (Zf _);have a7:=X;rw[s,C,b,A]at X;obtain⟨t,u⟩:=gg hN hU X;refine⟨q,a7.1,t,u,fun E K S=> ?_⟩;obtain⟨P,v,b1,b2,Q⟩:=e E K S
  grind
 obtain⟨q,hq,t,u,hl⟩:=N;refine⟨q,Xv.of (hB.Wa _ _ rfl) (((XT.ge 3).and hB.Xk).mono fun E K ⟨S,b7⟩=> ?_),hq,t,u⟩;obtain⟨P,T,a2⟩:=hl E K S;have s1:Xd .i64 (.ofNat (m+2)-.ofNat 1)=.ofNat (m+1):=by rw[X9 (by omega) (by omega)];rfl
 have f1:g%18446744073709551616=g:=Zi (by omega);have f2:o%18446744073709551616=o:=Zi (by omega);have f3:(w+1)%18446744073709551616=w+1:=Zi (by omega);have f4:g*4294967296%18446744073709551616=g*4294967296:=mB Z;have f5:(g*4294967296+o)%18446744073709551616=a:=by grind
 have o3:U5 .u64 (.ofNat a) (.ofNat (w+1))=some (.p (La2 k)):=by
  show some (DL.p (.int .u64 (Xd .u64 (.ofNat (a / (w+1))))))=_;rw[<-r,wrap_u64,Zi (by omega)]
 have o4:TN .u64 (.ofNat a) (.ofNat (w+1))=some (.p (La2 O)):=by rw[j];rfl
 have n:=sv.len;rw[b0]at n;clear f D c d z b s C a8 a5 A r j M hl;obtain⟨cE,lK,oD,oS,oR,dS,dD,h1,h2,h3,h4,h5,h6,h7,hL,R⟩:=SZ;rw[<-h2]at T;simp only[TP,R,Xs,reduceIte,Nat.reduceEqDiff,Nat.reduceLeDiff,Nat.reduceAdd,x195,n,s1,su.idx I,su.idx F,sv.idx l,f1,f2,f3,f4,f5,o3,o4,T,a2]
theorem xO {q V c i a}(b:c=q*(V%4294967296^i) / 4294967296^i)(d:a=V / 4294967296^i%4294967296):(q*a+c) / 4294967296=q*(V%4294967296^(i+1)) / 4294967296^(i+1):=by
 rw[Qu,<-d,Nat.mul_add,ZI,<-YG,YD,Nat.add_mul_div_left _ _ (Rb i),<-b,Nat.add_comm]
theorem qA (V i):(Xe V)[i]?.getD 0=V / 4294967296^i%4294967296:=by
 by_cases h:i<(Xe V).length
 ·have e:Xe V=dg (Xe V).length V:=Sd (Xr V) rfl (Xn V);rw[e,eU h];rfl
 ·have a:=SN V;have b:=VP (show(Xe V).length<=i by omega);rw[List.getElem?_eq_none (by omega),YI (ZO a b)];rfl
theorem En {U V Y q c b n}(d:0<V)(k:V<4294967296^n)(o:q<4294967296)(m:U<4294967296^(n+1))(s:Y<4294967296^(n+1))(l:c=q*(V%4294967296^(n+1)) / 4294967296^(n+1))(h:Y+q*(V%4294967296^(n+1))=U%4294967296^(n+1)+(c+b)*4294967296^(n+1))(t:b<=1):
  (q=U / V->b=0/\Y=U%V)/\(q=U / V+1->b=1/\Y+V=U%V+4294967296^(n+1)):=by
 have f:V<4294967296^(n+1):=Yy k (Nat.pow_lt_pow_right (by decide) (Nat.lt_succ_self n));rw[Zi f]at l h;rw[Zi m]at h;have i:q*V<4294967296^(n+1):=by rw[ZI,ZT];exact Nat.mul_lt_mul'' k o
 have g:c=0:=by rw[l];exact YI i
 rw[g,Yb]at h;have j:=Yo U V;have r:=ZN U d;rw[ZT]at j;constructor
 ·intro e;rw[<-e]at j;have a:b=0:=by
   rcases Z8 b 1 with hb1|hb1
   ·omega
   ·have :b=1:=by omega
    rw[this,Yf]at h;exfalso;generalize q*V=w at *;generalize U%V=z at *;generalize 4294967296^(n+1)=p at *;omega
  rw[a,Nat.zero_mul]at h;exact⟨a,by omega⟩
 ·intro e;rw[e,ZX,Yf]at h;have a:b=1:=by
   rcases Z8 b 1 with hb1|hb1
   ·have :b=0:=by omega
    rw[this,Nat.zero_mul]at h;exfalso;generalize U / V*V=w at *;generalize U%V=z at *;omega
   ·omega
  rw[a,Yf]at h;exact⟨a,by omega⟩
section
variable {E:Xa}{K:Nat}{iu j n tu:Nat}{lv:PL}{low hi:P'}{U V q:Nat}
theorem nQ (B:E.mode=md)(l:low.length=j)(hn:n<10000000000000)(T:q<4294967296)(W:∀i,i<n->E.pure 163 [.one lv,.one (La0 i)]=some (.one (La2 (V / 4294967296^i%4294967296)))):∀d i k H e c b,i+d=n->d<k->
  H[iu]? =some ⟨false,0,1,Wn (low++e++(dg d (U / 4294967296^i)++hi)),false,tu⟩->e.length=i->WR e->c<4294967296->b<=1->c=q*(V%4294967296^i) / 4294967296^i->val e+q*(V%4294967296^i)=U%4294967296^i+(c+b)*4294967296^i->
  ∃g f G x,Xb E K 0 [0,1,2,7,8,9] x196_1 k ⟨[(0,.one (.own iu 0 j n)),(1,La4 lv),(2,La3 q),(7,La3 c),(8,La3 b),(9,La1 i)],H⟩=
   some (.exit 0,⟨g,H.set iu ⟨false,0,1,Wn (low++f++hi),false,tu⟩⟩)/\Xi g 8=some (La3 x)/\
   f.length=n/\WR f/\x<=1/\G=q*(V%4294967296^n) / 4294967296^n/\val f+q*(V%4294967296^n)=U%4294967296^n+(G+x)*4294967296^n
 |_,_,0,_,_,_,_,_,h,_,_,_,_,_,_,_=>by omega
 |0,i,k+1,H,e,c,b,hi',_,hu,h1,h2,h3,h4,h4',h5=>by
  obtain rfl:i=n:=by omega
  rw[show dg 0 (U / 4294967296^i)=[]from rfl,ZB]at hu;have :∃g,Xb E K 0 [0,1,2,7,8,9] x196_1 (k+1) ⟨[(0,.one (.own iu 0 j i)),(1,La4 lv),(2,La3 q),(7,La3 c),(8,La3 b),(9,La1 i)],H⟩=some (.exit 0,⟨g,H⟩)/\Xi g 8=some (La3 b):=by
   apply VW
   ·obtain⟨Z,lK,oD,oS,oR,dS,dD,e1,e2,e3,e4,e5,e6,e7,N,R⟩:=SZ;rw[<-e2,N];simp only[TP,R,Xs,reduceIte,Nat.reduceEqDiff,x196_1,Zx];rfl
   ·simp only[Xo,reduceIte,Nat.reduceEqDiff]
  obtain⟨g,w,M⟩:=this;exact⟨g,e,c,b,by rw[NS hu];exact w,M,h1,h2,h4,h4',h5⟩
 |d+1,i,k+1,H,e,c,b,hi',hk,hu,h1,h2,h3,h4,h4',h5=>by
  have A:i<n:=by omega
  have D:=W i A;obtain⟨v,o⟩:∃v,v=V / 4294967296^i%4294967296:=⟨_,rfl⟩;obtain⟨a,y⟩:∃a,a=U / 4294967296^i%4294967296:=⟨_,rfl⟩;have P:v<4294967296:=by omega
  have a0:a<4294967296:=by omega
  rw[qK,ZD,<-y]at hu;rw[<-o]at D;have C:(low++e).length=j+i:=by rw[Zn,l,h1]
  have ht:=RG T P (z:=0) (u:=c) (by omega) h3;obtain⟨t,I⟩:∃t,t=q*v+c:=⟨_,rfl⟩;have f2:a%18446744073709551616=a:=Zi (by omega);have f3:q*v%18446744073709551616=q*v:=Zi (by omega);have S:t%18446744073709551616=t:=Zi (by omega);have f6:Xd .i64 (.ofNat (i+1))=.ofNat (i+1):=wrap_i64 (by omega);have f7:(4294967296+a)%18446744073709551616=4294967296+a:=Zi (by omega);have k1:Xd .u64 (.ofNat (4294967296+a)-.ofNat (t%4294967296))=.ofNat (4294967296+a-t%4294967296):=Pm (by omega) (by omega);have X:Xd .u64 (.ofNat (4294967296+a-t%4294967296)-.ofNat b)=.ofNat (4294967296+a-t%4294967296-b):=Pm (by omega) (by omega);obtain⟨s,Q⟩:∃s,s=4294967296+a-t%4294967296-b:=⟨_,rfl⟩;have k3:Xd .u64 (.ofNat 1-.ofNat (s / 4294967296))=.ofNat (1-s / 4294967296):=Pm (by omega) (by decide);have f8:s / 4294967296%18446744073709551616=s / 4294967296:=Zi (by omega);have f9:t / 4294967296%18446744073709551616=t / 4294967296:=Zi (by omega);have J:s%4294967296%4294967296=s%4294967296:=Nat.mod_mod ..;have F:s%4294967296+t%4294967296+b=a+4294967296*(1-s / 4294967296):=by omega
  have O:t / 4294967296<4294967296:=by omega
  have m:=yh h5 I rfl F;have r:=xO h4' o;rw[<-I]at r;obtain⟨g,f,G,x,w,M,g3,g4,g5,g6,g7⟩:=nQ B l hn T W d (i+1) k (H.set iu ⟨false,0,1,Wn (low++(e++[s%4294967296])++(dg d (U / 4294967296^(i+1))++hi)),false,tu⟩) (e++[s%4294967296]) (t / 4294967296) (1-s / 4294967296) (by omega) (by omega)
   (P8 hu) (by simp[h1]) (h2.snoc (by omega)) O (by omega) r (by rw[bK _ _ h1,Qu,Qu,<-o,<-y,ZI];exact m)
  rw[List.set_set]at w;refine⟨g,f,G,x,?_,M,g3,g4,g5,g6,g7⟩;rw[<-Zp low e [s%4294967296],<-N9 (low++e) _ a (s%4294967296) C]at w;have Y:=X7 (ab (low++e) (dg d (U / 4294967296^(i+1))++hi) a C);have q1:U5 .u64 (.ofNat t) (.ofNat 4294967296)=some (.p (La2 (t / 4294967296))):=by
   show some (DL.p (.int .u64 (Xd .u64 (.ofNat (t / 4294967296)))))=_;rw[wrap_u64,f9]
  have q2:U5 .u64 (.ofNat s) (.ofNat 4294967296)=some (.p (La2 (s / 4294967296))):=by
   show some (DL.p (.int .u64 (Xd .u64 (.ofNat (s / 4294967296)))))=_;rw[wrap_u64,f8]
  have q3:TN .u64 (.ofNat t) (.ofNat 4294967296)=some (.p (La2 (t%4294967296))):=rfl;have q4:TN .u64 (.ofNat s) (.ofNat 4294967296)=some (.p (La2 (s%4294967296))):=rfl;rw[<-Q]at X;have L:(q*v+c)%18446744073709551616=t:=by rw[<-I];exact S
  clear m F r Q ht S I;obtain⟨Z,lK,oD,oS,oR,dS,dD,e1,e2,e3,e4,e5,e6,e7,N,R⟩:=SZ;rw[<-e2]at w⊢;rw[N];simp only[TP,R,Xs,reduceIte,Nat.reduceEqDiff,Nat.reduceLeDiff,Zw,x196_1,B,X3,D,hu,Y,A,f2,f3,f6,f7,J,L,k1,X,k3,q1,q2,q3,q4,W3];exact w
end
theorem dP {B}(a:Std B){lv}{V}(b:dM lv V)(n):XT B fun E _=>∀i,i<n->E.pure 163 [.one lv,.one (La0 i)]=some (.one (La2 (V / 4294967296^i%4294967296))):=
 XT.all n fun i _=>by
  have:=Qe a b (Xr V) i;rw[qA]at this;exact this.Xk
theorem wP {B}(k:Std B){H}{iu j n tu}{lv}{low hi}{U V q}(m:low.length=j)(hn:n<2000000000000)(C:0<V)(A:V<4294967296^n)(S:dM lv V)(hU:U<4294967296^(n+1))(G:q<4294967296)
  (hu:H[iu]? =some ⟨false,0,1,Wn (low++(dg (n+1) U++hi)),false,tu⟩):
  ∃Y b,Uu B 196 [.one (.own iu 0 j (n+1)),La4 lv,La3 q] H (La4 (.bool (decide (b=1)))) (H.set iu ⟨false,0,1,Wn (low++(dg (n+1) Y++hi)),false,tu⟩)/\Y<4294967296^(n+1)/\
   (q=U / V->b=0/\Y=U%V)/\(q=U / V+1->b=1/\Y+V=U%V+4294967296^(n+1)):=by
 have key:∀(E:Xa) (K:Nat),n+2<=K->E.mode=md->(∀i,i<n+1->E.pure 163 [.one lv,.one (La0 i)]=some (.one (La2 (V / 4294967296^i%4294967296))))->
   ∃g d b c,Xb E K 0 [0,1,2,7,8,9] x196_1 K ⟨[(0,.one (.own iu 0 j (n+1))),(1,La4 lv),(2,La3 q),(7,La3 0),(8,La3 0),(9,La1 0)],H⟩=
    some (.exit 0,⟨g,H.set iu ⟨false,0,1,Wn (low++d++hi),false,tu⟩⟩)/\Xi g 8=some (La3 b)/\d.length=n+1/\WR d/\b<=1/\c=q*(V%4294967296^(n+1)) / 4294967296^(n+1)/\val d+q*(V%4294967296^(n+1))=U%4294967296^(n+1)+(c+b)*4294967296^(n+1):=by
  intro E K L e hw;obtain⟨g,d,c,b,g1,g2,v,x,s,y,h⟩:=nQ (E:=E) (K:=K) (iu:=iu) (tu:=tu) (low:=low) (hi:=hi) (U:=U) (q:=q) e m (show n+1<10000000000000 by omega) G hw (n+1) 0 K H [] 0 0 (by omega) (by omega)
   (by rw[ZJ,Nat.pow_zero,Nat.div_one];exact hu) rfl WR.nil (by decide) (by decide) (by simp[Nat.mod_one]) (by simp[val,Nat.mod_one])
  exact⟨g,d,b,c,g1,g2,v,x,s,y,h⟩
 have f:q*(V%4294967296^(n+1)) / 4294967296^(n+1)=0:=by
  rw[Zi (Yy A (Nat.pow_lt_pow_right (by decide) (Nat.lt_succ_self n)))];exact YI (by rw[ZI,ZT];exact Nat.mul_lt_mul'' A G)
 have t:∀Y b,Y<4294967296^(n+1)->b<=1->Y+q*(V%4294967296^(n+1))=U%4294967296^(n+1)+(0+b)*4294967296^(n+1)->∀r a,r<4294967296^(n+1)->a<=1->r+q*(V%4294967296^(n+1))=U%4294967296^(n+1)+(0+a)*4294967296^(n+1)->Y=r/\b=a:=by
  intro Y b I J z r a h4 h5 h6;generalize q*(V%4294967296^(n+1))=w at *;generalize U%4294967296^(n+1)=u at *;generalize 4294967296^(n+1)=p at *;have :b=0\/b=1:=by omega
  have :a=0\/a=1:=by omega
  rcases ‹b=0\/b=1› with rfl|rfl<;>rcases ‹a=0\/a=1› with rfl|rfl<;>simp only[Yb,Nat.zero_mul,Yf]at z h6<;>first |exact⟨by omega,rfl⟩|(exfalso;omega)
 obtain⟨N,hN⟩:=(dP k S (n+1)).and (k.Xk.and (XT.ge (B:=B) (n+2)));obtain⟨I,J,z⟩:=hN N N (Zf _) (Zf _);obtain⟨T0,o,W,c0,-,-,v,x,s,y,h⟩:=key _ N z J I;rw[y,f]at h;have D:val o<4294967296^(n+1):=by have:=Vd x;rwa[v]at this
 have l:=En C A G hU D f.symm h s;refine⟨val o,W,Uu.of (k.Wa _ _ rfl) ((((dP k S (n+1)).and (k.Xk.and (XT.ge (n+2))))).mono fun E K ⟨T,e,L⟩=> ?_),D,l⟩;obtain⟨g,d,b,c,M,k2,O,P,k5,k6,Q⟩:=key E K L e T;rw[k6,f]at Q;have F:val d<4294967296^(n+1):=by have:=Vd P;rwa[O]at this
 obtain⟨X,Z⟩:=t _ _ D s h _ _ F k5 Q;rw[X,Z,<-Sd P O rfl,<-Zp];obtain⟨cE,lK,oD,oS,oR,dS,dD,e1,e2,e3,e4,e5,e6,e7,hL,R⟩:=SZ;rw[<-e2]at M;simp only[TP,R,Vv,Xs,reduceIte,Nat.reduceEqDiff,Nat.reduceLeDiff,x196,M,k2]
section
variable {E:Xa}{K:Nat}{iu j n tu:Nat}{lv:PL}{low hi:P'}{U V:Nat}
theorem oK (u:E.mode=md)(f:low.length=j)(hn:n<10000000000000)(C:∀i,i<n->E.pure 163 [.one lv,.one (La0 i)]=some (.one (La2 (V / 4294967296^i%4294967296)))):∀d i k H b c,i+d=n->d<k->
  H[iu]? =some ⟨false,0,1,Wn (low++b++(dg d (U / 4294967296^i)++hi)),false,tu⟩->b.length=i->WR b->c<=1->val b+c*4294967296^i=U%4294967296^i+V%4294967296^i->
  ∃m e y,Xb E K 0 [0,1,4,5] x197_1 k ⟨[(0,.one (.own iu 0 j n)),(1,La4 lv),(4,La3 c),(5,La1 i)],H⟩=
   some (.exit 0,⟨m,H.set iu ⟨false,0,1,Wn (low++e++hi),false,tu⟩⟩)/\e.length=n/\WR e/\y<=1/\val e+y*4294967296^n=U%4294967296^n+V%4294967296^n
 |_,_,0,_,_,_,_,h,_,_,_,_,_=>by omega
 |0,i,k+1,H,b,c,hi',_,hu,h1,h2,h3,h4=>by
  obtain rfl:i=n:=by omega
  rw[show dg 0 (U / 4294967296^i)=[]from rfl,ZB]at hu;have :∃m,Xb E K 0 [0,1,4,5] x197_1 (k+1) ⟨[(0,.one (.own iu 0 j i)),(1,La4 lv),(4,La3 c),(5,La1 i)],H⟩=some (.exit 0,⟨m,H⟩)/\True:=by
   apply VW
   ·obtain⟨F,lK,oD,oS,oR,I,G,e1,e2,J,L,M,N,O,A,R⟩:=SZ;rw[<-e2,A];simp only[TP,R,Xs,reduceIte,Nat.reduceEqDiff,x197_1,Zx];rfl
   ·trivial
  obtain⟨m,o,-⟩:=this;exact⟨m,b,c,by rw[NS hu];exact o,h1,h2,h3,h4⟩
 |d+1,i,k+1,H,b,c,hi',hk,hu,h1,h2,h3,h4=>by
  have s:i<n:=by omega
  have w:=C i s;obtain⟨l,r⟩:∃l,l=V / 4294967296^i%4294967296:=⟨_,rfl⟩;obtain⟨a,q⟩:∃a,a=U / 4294967296^i%4294967296:=⟨_,rfl⟩;have a1:l<4294967296:=by omega
  have a0:a<4294967296:=by omega
  rw[qK,ZD,<-q]at hu;rw[<-r]at w;have v:(low++b).length=j+i:=by rw[Zn,f,h1]
  obtain⟨t,B⟩:∃t,t=a+l+c:=⟨_,rfl⟩;have P:a%18446744073709551616=a:=Zi (by omega);have Q:(a+l)%18446744073709551616=a+l:=Zi (by omega);have S:(a+l+c)%18446744073709551616=t:=by rw[<-B];exact Zi (by omega)
  have T:Xd .i64 (.ofNat (i+1))=.ofNat (i+1):=wrap_i64 (by omega);have W:t / 4294967296%18446744073709551616=t / 4294967296:=Zi (by omega);have z:t%4294967296%4294967296=t%4294967296:=Nat.mod_mod ..;have x:t%4294967296+4294967296*(t / 4294967296)=a+l+c:=by omega
  have g:=zU h4 x;obtain⟨m,e,y,o,X,Y,Z,g6⟩:=oK u f hn C d (i+1) k (H.set iu ⟨false,0,1,Wn (low++(b++[t%4294967296])++(dg d (U / 4294967296^(i+1))++hi)),false,tu⟩) (b++[t%4294967296]) (t / 4294967296) (by omega) (by omega)
   (P8 hu) (by simp[h1]) (h2.snoc (by omega)) (by omega) (by rw[bK _ _ h1,Qu,Qu,<-r,<-q,ZI,ZT _ a];exact g)
  rw[List.set_set]at o;refine⟨m,e,y,?_,X,Y,Z,g6⟩;rw[<-Zp low b [t%4294967296],<-N9 (low++b) _ a (t%4294967296) v]at o;have D:=X7 (ab (low++b) (dg d (U / 4294967296^(i+1))++hi) a v);have q2:U5 .u64 (.ofNat t) (.ofNat 4294967296)=some (.p (La2 (t / 4294967296))):=by
   show some (DL.p (.int .u64 (Xd .u64 (.ofNat (t / 4294967296)))))=_;rw[wrap_u64,W]
  have q4:TN .u64 (.ofNat t) (.ofNat 4294967296)=some (.p (La2 (t%4294967296))):=rfl;clear g x B;obtain⟨F,lK,oD,oS,oR,I,G,e1,e2,J,L,M,N,O,A,R⟩:=SZ;rw[<-e2]at o⊢;rw[A];simp only[TP,R,Xs,reduceIte,Nat.reduceEqDiff,Nat.reduceLeDiff,Zw,x197_1,u,X3,w,hu,D,s,P,Q,S,T,z,q2,q4,W3];exact o
end
theorem sS {B}(d:Std B){H}{iu j n tu}{lv}{low hi}{Y V Z}(a:low.length=j)(J:n<2000000000000)(o:V<4294967296^n)(s:dM lv V)(q:Y<4294967296^n)(I:Z<4294967296^n)(h:Y+V=Z+4294967296^n)
  (r:H[iu]? =some ⟨false,0,1,Wn (low++(dg n Y++hi)),false,tu⟩):
  Uu B 197 [.one (.own iu 0 j n),La4 lv] H (.Wd []) (H.set iu ⟨false,0,1,Wn (low++(dg n Z++hi)),false,tu⟩):=by
 refine Uu.of (d.Wa _ _ rfl) ((((dP d s n).and (d.Xk.and (XT.ge (n+1))))).mono fun E K ⟨m,e,F⟩=> ?_);obtain⟨t,l,c,g,i,k,D,b⟩:=oK (E:=E) (K:=K) (iu:=iu) (tu:=tu) (low:=low) (hi:=hi) (U:=Y) e a (show n<10000000000000 by omega) m n 0 K H [] 0 (by omega) (by omega)
   (by rw[ZJ,Nat.pow_zero,Nat.div_one];exact r) rfl WR.nil (by decide) (by simp[val,Nat.mod_one])
 rw[Zi q,Zi o,h]at b;have L:val l<4294967296^n:=by have:=Vd k;rwa[i]at this
 have f:val l=Z:=by
  generalize 4294967296^n=p at *;have :c=0\/c=1:=by omega
  rcases this with rfl|rfl
  ·rw[Nat.zero_mul]at b;omega
  ·rw[Yf]at b;omega
 rw[<-f,<-Sd k i rfl,<-Zp];obtain⟨u,M,N,P,O,w,v,e1,e2,x,y,z,A,C,G,R⟩:=SZ;rw[<-e2]at g;simp only[TP,R,Vv,Xs,reduceIte,Nat.reduceEqDiff,Nat.reduceLeDiff,x197,g]
theorem D7 {y n w d}(o:w=y / 4294967296^n)(p:0<w)(q:w<4294967296)(l:d=4294967296 / (w+1)):vp (y*d) (n+1)/\0<d/\d<4294967296:=by
 obtain⟨g,h⟩:=Se y _ (Rb n);rw[<-o]at g h;have c:=Yo 4294967296 (w+1);have j:=ZN 4294967296 (show 0<w+1 by omega);rw[<-l]at c;have b:0<d:=by grind
 have f:d<4294967296:=by simp_all [Nat.div_lt_self]
 obtain⟨r,m⟩:∃r,r=4294967296%(w+1):=⟨_,rfl⟩;rw[<-m]at c j;have a:4294967296<=2*(w*d):=by
  have e:(w+1)*d=w*d+d:=by grind
  rw[e]at c;rcases Z8 1 d with hd2|hd2
  ·rcases Z8 1 w with hw2|hw2
   ·have :2*(w-1)<=d*(w-1):=Zm _ hd2;have e2:d*(w-1)+d=w*d:=by
     obtain⟨v,rfl⟩:∃v,w=v+1:=⟨w-1,by omega⟩
     grind
    omega
   grind
  grind
 refine⟨⟨?_,?_⟩,b,f⟩
 ·rw[ZI];have k:=Zm d g;have i:=Zm (4294967296^n) a
  grind
 ·rw[ZI];have k:=Yl h b;have i:(w+1)*d<=4294967296:=by omega
  have s:=Zm (4294967296^n) i
  grind
def jq (X V L N i:Nat):V':=[⟨false,0,1,Wn (dg L (X%(V*4294967296^i))),false,177⟩,⟨false,0,1,Wn (List.replicate i 0++dg (N+1-i) (X / (V*4294967296^i))),false,177⟩]
def rh (E:Xa)(lv:PL)(X V L m N j:Nat):Prop:=∃q,E.pure 195 [.one (.Xl (UI (dg (m+3) (X%(V*4294967296^(j+1)) / 4294967296^j)))),.one lv]=some (.one (La2 q))/\
 ((q=X%(V*4294967296^(j+1)) / 4294967296^j / V/\E.heap 196 [.one (.own 0 0 j (m+3)),La4 lv,La3 q] (jq X V L N (j+1))=some (La4 (.bool false),(jq X V L N (j+1)).set 0 ⟨false,0,1,Wn (dg L (X%(V*4294967296^j))),false,177⟩))\/
  (q=X%(V*4294967296^(j+1)) / 4294967296^j / V+1/\∃W,E.heap 196 [.one (.own 0 0 j (m+3)),La4 lv,La3 q] (jq X V L N (j+1))=some (La4 (.bool true),(jq X V L N (j+1)).set 0 ⟨false,0,1,Wn W,false,177⟩)/\
   E.heap 197 [.one (.own 0 0 j (m+3)),La4 lv] ((jq X V L N (j+1)).set 0 ⟨false,0,1,Wn W,false,177⟩)=some (.Wd [],(jq X V L N (j+1)).set 0 ⟨false,0,1,Wn (dg L (X%(V*4294967296^j))),false,177⟩)))
theorem GW {B}(l:Std B){lv}{X V L m N j}(Q:L=N+(m+3))(R:N<1000000000000)(T:m<1000000000000)(S:j<N+1)(s:dM lv V)(x:vp V (m+2))(e:0<V)(g:(Xe V).length=m+2):XT B fun E _=>rh E lv X V L m N j:=by
 have a:=x.2;have c:V<4294967296^(m+3):=Yy a (Nat.pow_lt_pow_right (by decide) (Nat.lt_succ_self _));obtain⟨z,r,A⟩:=eJ (X:=X) (V:=V) (L:=L) (N:=N) (n:=m+2) (j:=j) (by omega) e a;unfold rh;obtain⟨U,u⟩:∃U,U=X%(V*4294967296^(j+1)) / 4294967296^j:=⟨_,rfl⟩;obtain⟨low,v⟩:∃low,low=dg j (X%(V*4294967296^(j+1))):=⟨_,rfl⟩;have d:low.length=j:=by rw[v,Wh]
 rw[<-u,<-v]at z r;rw[<-u]at A⊢;have o:U<4294967296^(m+3):=by
  have:=Yl a (show 0<4294967296 by decide);rw[<-ZI]at this
  grind
 have G:(jq X V L N (j+1))[0]? =some ⟨false,0,1,Wn (low++(dg (m+3) U++List.replicate (N-j) 0)),false,177⟩:=by
  show some (Xx.mk false 0 1 (Wn (dg L (X%(V*4294967296^(j+1))))) false 177)=_;rw[z]
 obtain⟨q,w,D,O,P⟩:=Bu l (lu:=.Xl (UI (dg (m+3) U))) .Xl s g (by omega) x A (fun i hi=>by
  have :Xe V=dg (m+2) V:=Sd (Xr V) g (Xn V);rw[this,eU hi]) (fun i hi=>eU hi)
 obtain⟨Y,b,h,I,J,M⟩:=wP l (H:=jq X V L N (j+1)) (iu:=0) (n:=m+2) d (by omega) e a s o D G;have F:=ZN U e;rcases Z8 q (U / V+1)with hc|hc
 ·have f:q=U / V:=by omega
  obtain⟨k,t⟩:=J f;rw[k,t,<-r]at h;refine(w.Xk.and h.Xk).mono fun E K ⟨e1,e2⟩=>⟨q,e1,.inl ⟨f,?_⟩⟩
  exact e2
 ·have f:q=U / V+1:=by omega
  obtain⟨k,t⟩:=M f;rw[k]at h;have p:((jq X V L N (j+1)).set 0 ⟨false,0,1,Wn (low++(dg (m+2+1) Y++List.replicate (N-j) 0)),false,177⟩)[0]? =some ⟨false,0,1,Wn (low++(dg (m+3) Y++List.replicate (N-j) 0)),false,177⟩:=rfl;have y:=sS l d (show m+3<2000000000000 by omega) c s I (Yy F c) t p;rw[<-r,List.set_set]at y;exact(w.Xk.and (h.Xk.and y.Xk)).mono fun E K ⟨e1,e2,C⟩=>⟨q,e1,.inr ⟨f,_,e2,C⟩⟩
theorem yy {E}{K}{lv}{X V L m N d}(hL:L=N+(m+3))(hN:N<1000000000000)(hm:m<1000000000000)(f:E.mode=md)(s:0<V)(t:V<4294967296^(m+2))
  (P:∀j,j<N+1->rh E lv X V L m N j):
  ∀i,i<=N+1->∀k,i<k->∃g,Xb E K 0 [8,9,10,11,12,13] x185_1 k ⟨[(8,La1 (m+2)),(9,La3 d),(10,La4 lv),(11,.one (.own 0 0 0 L)),(12,.one (.own 1 0 0 (N+1))),(13,La4 (.int .i64 (pI i)))],jq X V L N i⟩=some (.exit 0,⟨g,jq X V L N 0⟩)/\
   Xi g 9=some (La3 d)/\Xi g 11=some (.one (.own 0 0 0 L))/\Xi g 12=some (.one (.own 1 0 0 (N+1)))
 |_,_,0,h=>by omega
 |0,_,k+1,_=>by
  apply VW
  ·obtain⟨Y,lK,oD,oS,oR,dS,Z,e1,e2,e3,e4,e5,e6,e7,e,R⟩:=SZ;rw[<-e2,e];simp only[TP,R,Xs,reduceIte,Nat.reduceEqDiff,x185_1,gR];rfl
  ·simp only[Xo,reduceIte,Nat.reduceEqDiff,and_self]
 |j+1,hj,k+1,hk=>by
  obtain⟨g,v,g2⟩:=yy (K:=K) hL hN hm f s t P j (by omega) k (by omega);refine⟨g,?_,g2⟩;obtain⟨S,-,T⟩:=eJ (X:=X) (V:=V) (L:=L) (N:=N) (n:=m+2) (j:=j) (by omega) s t;obtain⟨q,w,c⟩:=P j (by omega);have a:=nA (X:=X) (V:=V) (N:=N) (j:=j) (by omega);obtain⟨U,y⟩:∃U,U=X%(V*4294967296^(j+1)) / 4294967296^j:=⟨_,rfl⟩;rw[<-y]at w c a S T;obtain⟨Q,x⟩:∃Q,Q=U / V:=⟨_,rfl⟩;have hQ:Q<4294967296:=by simp_all [Yc]
  rw[<-x]at c a;have z:Xd .i64 (.ofNat (j+(m+2)))=.ofNat (j+(m+2)):=wrap_i64 (by omega);have B:Xd .i64 (.ofNat (j+(m+2)+1))=.ofNat (j+(m+2)+1):=wrap_i64 (by omega);have C:Xd .i64 (.ofNat j-.ofNat 1)=pI j:=UR (by omega);have O:(jq X V L N (j+1))[0]? =some ⟨false,0,1,Wn (dg L (X%(V*4294967296^(j+1)))),false,177⟩:=rfl;have F:WN 1 (Xj (jq X V L N (j+1))) (.own 0 0 0 L) j (some (j+(m+2)+1))=some (.own 0 0 j (m+3),[0]):=by
   rw[NR (b:=⟨false,0,1,Wn (dg L (X%(V*4294967296^(j+1)))),false,177⟩) rfl (by omega) (by omega) rfl,Yb,show j+(m+2)+1-j=m+3 by omega]
  have M:((Wn (dg L (X%(V*4294967296^(j+1))))).drop j).take (m+3)=Wn (dg (m+3) U):=by
   grind [rK,Wh,rJ]
  have l:j+(m+3)<=L:=by omega
  have G:((jq X V L N (j+1)).set 0 ⟨false,0,1,Wn (dg L (X%(V*4294967296^j))),false,177⟩)[1]? =some ⟨false,0,1,Wn (List.replicate (j+1) 0++dg (N-j) (X / (V*4294967296^(j+1)))),false,177⟩:=by
   show some (Xx.mk false 0 1 (Wn (List.replicate (j+1) 0++dg (N+1-(j+1)) (X / (V*4294967296^(j+1))))) false 177)=_
   grind
  have H:=X7 (gZ 0 j (dg (N-j) (X / (V*4294967296^(j+1)))));have I:((jq X V L N (j+1)).set 0 ⟨false,0,1,Wn (dg L (X%(V*4294967296^j))),false,177⟩).set 1 ⟨false,0,1,Wn (List.replicate j 0++dg (N+1-j) (X / (V*4294967296^j))),false,177⟩=jq X V L N j:=rfl;have J:j<N+1:=by omega
  have o:Q%4294967296=Q:=Zi hQ;have u:Xd .u64 (.ofNat (Q+1)-.ofNat 1)=.ofNat Q:=by rw[iP (by omega),wrap_u64,Ys,Zi (by omega)]
  have r:=Wh L (X%(V*4294967296^(j+1)));generalize dg L (X%(V*4294967296^(j+1)))=A at *;generalize jq X V L N (j+1)=D at *;generalize (D.set 0 ⟨false,0,1,Wn (dg L (X%(V*4294967296^j))),false,177⟩)=D1 at *;generalize jq X V L N j=D2 at *;generalize jq X V L N 0=D3 at *;generalize dg (N-j) (X / (V*4294967296^(j+1)))=l1 at *;generalize dg (N+1-j) (X / (V*4294967296^j))=l2 at *;clear y x S T;obtain⟨Y,lK,oD,oS,oR,dS,Z,e1,e2,e3,e4,e5,e6,e7,e,R⟩:=SZ;rw[<-e2]at v⊢;rw[e];rcases c with⟨rfl,c⟩|⟨rfl,W,c,h3⟩
  ·simp only[TP,R,Vv,Xs,reduceIte,Nat.reduceEqDiff,Nat.reduceLeDiff,Zw,x185_1,cy,f,X3,w,c,z,B,C,F,G,H,J,M,l,o,r,O,VE,Uv,UK,W3,NT,a,I];exact v
  ·simp only[TP,R,Vv,Xs,reduceIte,Nat.reduceEqDiff,Nat.reduceLeDiff,Zw,x185_1,cy,f,X3,w,c,h3,z,B,C,F,G,H,J,M,l,o,u,r,O,VE,Uv,UK,W3,NT,a,I];exact v
theorem gu {B}(a:Std B){la lb}{x y}(F:dM la x)(l:dM lb y)(hx:(Xe x).length<1000000000000)(hy:(Xe y).length<1000000000000)(D:0<y):
  ∃q r,Xv B 185 [.one la,.one lb] (.Wd [.one q,.one r])/\dM q (x / y)/\dM r (x%y):=by
 have H:=OA a F l (Xr _) (Xr _) (WO _) (WO _) (by omega) (by omega);rw[Xn,Xn]at H;by_cases c:x<y
 ·refine⟨.Xp,la,Xv.of (a.Wa _ _ rfl) ((H.Xk.and a.Xk).mono fun E K ⟨o,e⟩=> ?_),?_,?_⟩
  ·simp only[Xo,Xs,reduceIte,Nat.reduceEqDiff,Nat.reduceLeDiff,x185,e,X3,o,RH,c]
  ·rw[YI c];exact dM.zero
  ·rw[Zi c];exact F
 by_cases h1:(Xe y).length=1
 ·obtain⟨k1,I⟩:=Sg.1 h1;have hi:(Xe y)[0]? =some y:=by rw[OO k1 I];rfl
  have hd:=jj a F (Xr _) (by omega) k1 I;rw[Xn]at hd;have a7:=ZN x D;have hw:=Qp a (m:=x%y) (by omega);have P:y%18446744073709551616=y:=Zi (by omega);refine⟨_,_,Xv.of (a.Wa _ _ rfl) ((H.Xk.and (hd.Xk.and (hw.Xk.and a.Xk))).mono fun E K ⟨o,M,O,e⟩=> ?_),.Xl,.Xl⟩;simp only[Xo,Xs,reduceIte,Nat.reduceEqDiff,Nat.reduceLeDiff,x185,e,X3,o,M,O,RH,c,l.len,h1,l.idx hi,P]
 have b2:2<=(Xe y).length:=by
  have :(Xe y).length≠0:=by rw[Ne,Ui];omega
  omega
 obtain⟨m,hm⟩:∃m,(Xe y).length=m+2:=⟨(Xe y).length-2,by omega⟩;obtain⟨t1,t2,t3,t4⟩:=r9 (n:=m+1) hm;obtain⟨w,ew⟩:∃w,w=y / 4294967296^(m+1):=⟨_,rfl⟩;rw[<-ew]at t1 t2 t3;obtain⟨d,ed⟩:∃d,d=4294967296 / (w+1):=⟨_,rfl⟩;obtain⟨U,b,A⟩:=D7 ew t2 t3 ed;have b1:=XR (Nat.le_of_not_lt c);obtain⟨N,eN⟩:∃N,(Xe x).length=N+(m+2):=⟨(Xe x).length-(m+2),by omega⟩;obtain⟨V,f⟩:∃V,V=y*d:=⟨_,rfl⟩;obtain⟨X,s⟩:∃X,X=x*d:=⟨_,rfl⟩;have g:0<V:=by rw[f];exact ZV D b
 rw[<-f]at U;have i:=U.2;have k:=SN x;rw[eN]at k;have u:X<V*4294967296^(N+1):=by
  have J:X<4294967296^(N+(m+2))*d:=by rw[s];exact Yl k b
  have G:=Zm (d*4294967296^(N+1)) t4;have a4:4294967296^(m+1)*(d*4294967296^(N+1))=4294967296^(N+(m+2))*d:=by
   rw[YD,<-Ye,show m+1+(N+1)=N+(m+2)by omega,ZT]
  rw[a4,<-Yn,<-f]at G;exact ZO J G
 have W:X<4294967296^(N+(m+2)+1):=by
  rw[s,ZI];exact Nat.mul_lt_mul'' k A
 have a5:(Xe V).length=m+2:=by
  have a1:=VF i;have J:y<=V:=by rw[f];exact Z1 _ b
  have G:=XR J;rw[hm]at G;omega
 have C:X / V=x / y:=by rw[s,f,Nat.mul_div_mul_right _ _ b]
 have a0:X%V / d=x%y:=by rw[s,f,Nat.mul_mod_mul_right,Nat.mul_div_cancel _ b]
 have v:X%V<4294967296^(m+2):=Yy (ZN _ g) i;have z:X%V<4294967296^(N+(m+2)+1):=ZO v (VP (by omega));have a6:=Qp a (m:=d) (by omega);have a9:(Xe d).length<=2:=OP (by omega);have c1:=dV a l (lb:=.Xl (UI (Xe d))) .Xl (Xr _) (Xr _) (by omega);have c2:=dV a F (lb:=.Xl (UI (Xe d))) .Xl (Xr _) (Xr _) (by omega);rw[Xn,Xn,<-f]at c1;rw[Xn,Xn,<-s]at c2;have c3:XT B fun E _=>∀j,j<N+1->rh E (.Xl (UI (Xe V))) X V (N+(m+3)) m N j:=XT.all (N+1) fun j hj=>GW a rfl (by omega) (by omega) hj .Xl U g a5
 have c4:=Ra a (ws:=dg (N+1) (x / y)) (by rw[Wh];omega);rw[SD (by rw[<-C];exact Yc u)]at c4;have c5:=Ra a (ws:=dg (N+(m+2)+1) (X%V)) (by rw[Wh];omega);rw[SD z]at c5;have c6:=jj a (la:=.Xl (UI (Xe (X%V)))) .Xl (Xr _) (by have:=VF v;omega) b A;rw[Xn,a0]at c6;refine⟨_,_,Xv.of (a.Wa _ _ rfl) ((H.Xk.and (a6.Xk.and (c1.Xk.and (c2.Xk.and (c3.and (c4.Xk.and (c5.Xk.and (c6.Xk.and (a.Xk.and (XT.ge (N+2))))))))))).mono fun E K ⟨o,M,O,e6,e7,e8,e9,L,e,hK⟩=> ?_),.Xl,.Xl⟩;obtain⟨T',t,g2,g3,g4⟩:=yy (K:=K) (d:=d) rfl (by omega) (by omega) e g i e7 (N+1) (Zf _) K (by omega);have d1:jq X V (N+(m+3)) N (N+1)=[⟨false,0,1,Wn (dg (N+(m+2)+1) X),false,177⟩,⟨false,0,1,Wn (List.replicate (N+1) 0),false,177⟩]:=by
  unfold jq;rw[Zi u,Nat.sub_self,show dg 0 (X / (V*4294967296^(N+1)))=[]from rfl,ZJ];rfl
 have d2:jq X V (N+(m+3)) N 0=[⟨false,0,1,Wn (dg (N+(m+3)) (X%V)),false,177⟩,⟨false,0,1,Wn (dg (N+1) (X / V)),false,177⟩]:=by
  unfold jq;rw[Nat.pow_zero,Z6];rfl
 rw[d1,d2,C]at t;have f6:(Int.ofNat N:Int)=pI (N+1):=rfl;rw[<-f6]at t;have z1:N+(m+3)=N+(m+2)+1:=rfl;rw[z1]at t g3;have P:Xd .i64 (.ofNat (m+2)-.ofNat 1)=.ofNat (m+1):=by rw[X9 (by omega) (by omega)];rfl
 have f2:Xd .i64 (.ofNat (N+(m+2))-.ofNat (m+2))=.ofNat N:=by rw[X9 (by omega) (by omega),Ys]
 have f3:Xd .i64 (.ofNat (N+1))=.ofNat (N+1):=wrap_i64 (by omega);have f4:4*(N+1)<=lim:=by unfold lim;omega
 have f5:N+1<=9223372036854775807:=by omega
 have f7:Xd .i64 (.ofNat (N+(m+2)+1))=.ofNat (N+(m+2)+1):=wrap_i64 (by omega);have f8:4*(N+(m+2)+1)<=lim:=by unfold lim;omega
 have f9:N+(m+2)+1<=9223372036854775807:=by omega
 have Q:w%18446744073709551616=w:=Zi (by omega);have S:(w+1)%18446744073709551616=w+1:=Zi (by omega);have T:U5 .u64 (.ofNat 4294967296) (.ofNat (w+1))=some (.p (La2 d)):=by
  show some (DL.p (.int .u64 (Xd .u64 (.ofNat (4294967296 / (w+1))))))=_;rw[<-ed,wrap_u64,Zi (by omega)]
 have n1:¬m+2=1:=by omega
 have Z:Nw 0 1 0 0 0 (N+(m+2)+1) ⟨false,0,1,Wn (List.replicate (N+(m+2)+1) 0),false,177⟩ (Wn (Xe X)) []=some ⟨La1 (Nat.min (N+(m+2)+1) (Wn (Xe X)).length),[],[(0,⟨false,0,1,Wn (dg (N+(m+2)+1) X),false,177⟩)],[0]⟩:=by
  have b0:=VF W;have e1:dg (N+(m+2)+1) X=Xe X++List.replicate (N+(m+2)+1-(Xe X).length) 0:=by
   refine(Sd (fun q hq=> ?_) (by simp;omega) ?_).symm
   ·rcases ZS.1 hq with h|h
    ·exact Xr X q h
    ·exact WR.replicate _ q h
   ·rw[PZ,Xn,Uj,Nat.mul_zero,ZU]
  have e2:(Wn (List.replicate (N+(m+2)+1) 0)).length=N+(m+2)+1:=by rw[VE];simp
  simp only[Nw,e2,zO,Yb,PU (Zf _),Bool.not_false,Bool.and_true,cond_true,List.take_zero,ZB,show Nat.beq 0 0=true from rfl,show Nat.beq 1 1=true from rfl,Bool.true_or];rw[show(Wn (Xe X)).take (N+(m+2)+1)=Wn (Xe X)from Ze (by rw[VE];omega),VE,show Nat.min (N+(m+2)+1) (Xe X).length=(Xe X).length from Nat.min_eq_right (by omega),rK,List.drop_replicate,e1];simp[Wn]
 have Y:∀h,WH h (.p (.Xl (UI (Xe X))))=some (Wn (Xe X),[]):=fun h=>by
  show some ((UI (Xe X)).map (·.map DL.p),[])=_;rw[xY]
 obtain⟨cE,lK,oD,oS,oR,dS,dD,k1,I,k3,k4,k5,k6,k7,a8,R⟩:=SZ;rw[<-I]at t;simp+decide only[TP,R,Vv,Xs,reduceIte,Nat.reduceAdd,x185,e,X3,o,M,O,e6,e8,e9,L,RH,c,F.len,l.len,hm,eN,l.idx t1,P,f2,f3,f4,f5,f7,f8,f9,Q,S,T,n1,Y,Z,Zf,Ty,t,g2,g3,g4,VE,Wh,Uv,UK,Sp _ (Yv (Wh (N+1) (x / y))),Sp _ (Yv (Wh (N+(m+2)+1) (X%V)))]
def aC (z:Int):Prop:=(Xe z.natAbs).length<1000000000000
theorem aC.sm {z}(h:aC z):Sm z:=by grind [aC,Sm]
theorem uS {B}(d:Std B):∀y x u v,dM u x->dM v y->(Xe x).length<1000000000000->(Xe y).length<1000000000000->
  ∃(g:Bool) (r:PL),dM r (Nat.gcd x y)/\XT B fun E K=>∀k,y<k->
   ∃j,Xb E K 0 [0,1] x161_1 k ⟨[(0,La4 u),(1,La4 v)],[]⟩=
    (bif g then some (.ret,⟨j,[]⟩)else some (.exit 0,⟨j,[]⟩))/\(g=true->Xi j 4=some (La4 r))/\(g=false->Xi j 0=some (La4 r)):=by
 intro y;induction y using Nat.strongRecOn with
 |ind y ih=>
  intro x u v t i hx A;rcases Yk y with h0|h0
  ·subst h0;refine⟨false,u,by grind,XT.of fun K n k H=> ?_⟩;rcases k with _|k;omega;have c:=i.len;rw[Vc]at c;apply VW
   ·obtain⟨D,S,T,V,U,G,F,L,o,M,N,O,P,Q,a,R⟩:=SZ;rw[<-o,a];simp only[TP,R,Xs,reduceIte,Nat.reduceEqDiff,x161_1,c,Zx];rfl
   ·simp only[Xo,reduceIte,Nat.reduceEqDiff,forall_const,ZC,false_implies,and_self]
  have f:0<(Xe y).length:=by
   grind [Ui]
  by_cases e:(Xe x).length<=2/\(Xe y).length<=2
  ·have v1:=fO d t (Xr x) e.1;have v2:=fO d i (Xr y) e.2;rw[Xn]at v1 v2;have W:=Mh e.1;have l:=Mh e.2;have hg:Nat.gcd x y<18446744073709551616:=Z2 (Nat.gcd_le_right x h0) l;have v3:=sP d W l;have v4:=Qp d hg;have s:=e.1;have C:=e.2;refine⟨true,.Xl (UI (Xe (Nat.gcd x y))),.Xl,(v1.Xk.and (v2.Xk.and (v3.Xk.and (v4.Xk.and d.Xk)))).mono fun E K ⟨e1,e2,Z,e4,b⟩ k H=> ?_⟩;rcases k with _|k;omega;apply VW
   ·obtain⟨D,S,T,V,U,G,F,L,o,M,N,O,P,Q,a,R⟩:=SZ;rw[<-o,a];simp only[TP,R,Xs,reduceIte,Nat.reduceEqDiff,x161_1,t.len,i.len,f,s,C,b,X3,e1,e2,Z,e4];rfl
   ·simp only[Xo,reduceIte,Nat.reduceEqDiff,Bool.true_eq_false,false_implies,forall_const,and_self]
  ·obtain⟨q,r,X,d2,Y⟩:=gu d t i hx A h0;have I:=ZN x h0;have z:(Xe (x%y)).length<1000000000000:=Z2 (XR (Nat.le_of_lt I)) A;obtain⟨rt,r2,J,i3⟩:=ih (x%y) I y v r i Y A z;have eg:Nat.gcd x y=Nat.gcd y (x%y):=by grind [Nat.gcd_comm,Nat.gcd_rec]
   rw[<-eg]at J;refine⟨rt,r2,J,(X.Xk.and (i3.and d.Xk)).mono fun E K ⟨e1,e2,b⟩ k H=> ?_⟩;rcases k with _|k;omega;obtain⟨j,w,g2⟩:=e2 k (by omega);refine⟨j,?_,g2⟩;obtain⟨D,S,T,V,U,G,F,L,o,M,N,O,P,Q,a,R⟩:=SZ;rw[<-o]at w⊢;rw[a];by_cases s:(Xe x).length<=2
   ·have C:¬(Xe y).length<=2:=fun h=>e ⟨s,h⟩
    simp only[TP,R,Xs,reduceIte,Nat.reduceEqDiff,x161_1,t.len,i.len,f,s,C,b,X3,e1];exact w
   ·simp only[TP,R,Xs,reduceIte,Nat.reduceEqDiff,x161_1,t.len,i.len,f,s,b,X3,e1];exact w
theorem sO {B}(a:Std B){c d}{x y}(u:Tc c x)(v:Tc d y)(o:aC x)(p:aC y):∃e,Xv B 123 [.agg c,.agg d] (.agg e)/\Tc e (Nat.gcd x.natAbs y.natAbs):=by
 obtain⟨m,rfl,w⟩:=u;obtain⟨n,rfl,A⟩:=v;unfold aC at o p;obtain⟨G,r,C,D⟩:=uS a y.natAbs x.natAbs m n w A o p;have j:(Xe (Nat.gcd x.natAbs y.natAbs)).length<10000000000000:=by
  rcases Yk y.natAbs with h|h
  ·grind
  ·have:=XR (Nat.gcd_le_right x.natAbs h);omega
 have q:Xv B 161 [.one m,.one n] (.one r):=by
  refine Xv.of (a.Wa _ _ rfl) ((D.and (a.Xk.and (XT.ge (y.natAbs+1)))).mono fun E K ⟨e1,z,M⟩=> ?_);obtain⟨H,b,g,i⟩:=e1 K (by omega);obtain⟨I,U,V,X,W,L,J,N,F,O,P,Q,S,T,t,R⟩:=SZ;rw[<-F]at b;cases G with
  |true=>
   replace g:=g rfl
   rw[cond_true]at b;simp only[TP,R,Xs,reduceIte,Nat.reduceEqDiff,Nat.reduceLeDiff,x161,b,g]
  |false=>
   replace i:=i rfl
   rw[cond_false]at b;simp only[TP,R,Xs,reduceIte,Nat.reduceEqDiff,Nat.reduceLeDiff,x161,b,i]
 obtain⟨e,s,f⟩:=Uc a false C (Xr _) j;rw[Xn]at f
 replace f:Tc e (Nat.gcd x.natAbs y.natAbs):=by simpa using f
 refine⟨e,Xv.of (a.Wa _ _ rfl) ((q.Xk.and (s.Xk.and a.Xk)).mono fun E K ⟨e1,e2,k⟩=> ?_),f⟩;obtain⟨l,rfl,-⟩:=f;simp+decide only[Xo,Xs,reduceIte,Nat.reduceAdd,x123,k,X3,e1,e2]
theorem Cg {B}(a:Std B){l}{x}(s:dM l x)(b:(Xe x).length<1000000000000):Xv B 126 [.one l,.one (.Xl [[.int .u32 (.ofNat 1)]])] (.one (.Xl (UI (Xe (x+1))))):=by
 have h:=oO a s (lb:=.Xl (UI [1])) .Xl (Xr x) (WR.mk (by decide) WR.nil) (by omega) (by decide);rw[Xn]at h;exact h
theorem sY {B}(b:Std B){c d}{x y}(V:Tc c x)(W:Tc d y)(G:aC x)(H:aC y)(I:y≠0):∃e f,Xv B 162 [.agg c,.agg d] (.Wd [.agg e,.agg f,.one (La0 0)])/\Tc e (x / y)/\Tc f (x%y):=by
 obtain⟨m,rfl,X⟩:=V;obtain⟨n,rfl,t⟩:=W;unfold aC at G H;have u:0<y.natAbs:=by omega
 have o:(Xe y.natAbs).length≠0:=by grind [Ui]
 obtain⟨q,r,L,M,z⟩:=gu b X t G H u;obtain⟨e1,e2⟩:=gr x I;have N:=ZN x.natAbs u;have lq:(Xe (x.natAbs / y.natAbs)).length<1000000000000:=Z2 (XR (Nat.div_le_self ..)) G;have lr:(Xe (x.natAbs%y.natAbs)).length<1000000000000:=Z2 (XR (Nat.le_of_lt N)) H;by_cases g:x<0/\0<x.natAbs%y.natAbs
 ·have s1:=Cg b M lq;have O:=dW b t z (Xr _) (Xr _) (XR (Nat.le_of_lt N)) (by omega) (by grind [Xn]);rw[Xn,Xn]at O;simp only[if_pos g]at e1 e2;have l1:(Xe (x.natAbs / y.natAbs+1)).length<10000000000000:=by
   grind [U1,Sg]
  have l2:(Xe (y.natAbs-x.natAbs%y.natAbs)).length<10000000000000:=by
   have:=XR (Nat.sub_le y.natAbs (x.natAbs%y.natAbs));omega
  obtain⟨e,C,h⟩:=Uc b (decide (x<0)!=decide (y<0)) (l:=.Xl (UI (Xe (x.natAbs / y.natAbs+1)))) .Xl (Xr _) l1;obtain⟨f,D,a⟩:=Uc b false (l:=.Xl (UI (Xe (y.natAbs-x.natAbs%y.natAbs)))) .Xl (Xr _) l2;rw[Xn]at h a;rw[<-e1]at h
  replace a:Tc f (x%y):=by rw[e2];simpa using a
  have p:((decide (x<0)==decide (y<0))!=true)=(decide (x<0)!=decide (y<0)):=by grind
  obtain⟨z1,z2,A⟩:=h.len;obtain⟨z3,z4,k⟩:=a.len;subst A k;have s:=g.1;have J:0<(Xe (x.natAbs%y.natAbs)).length:=by
   grind [Xe]
  refine⟨_,_,Xv.of (b.Wa _ _ rfl) ((L.Xk.and (s1.Xk.and (O.Xk.and (C.Xk.and (D.Xk.and b.Xk))))).mono fun E K ⟨v,P,Q,j,w,i⟩=> ?_),h,a⟩;simp only[s,decide_true]at j p;obtain⟨S,lK,oD,oS,oR,U,T,Y,Z,k3,k4,k5,k6,k7,F,R⟩:=SZ;simp+decide only[TP,R,Xs,reduceIte,Nat.reduceAdd,x162,i,X3,v,P,Q,j,w,t.len,o,s,J,z.len,p]
 ·obtain⟨e,C,h⟩:=Uc b (decide (x<0)!=decide (y<0)) M (Xr _) (by omega);obtain⟨f,D,a⟩:=Uc b false z (Xr _) (by omega);simp only[if_neg g]at e1 e2;rw[Xn]at h a;rw[<-e1]at h
  replace a:Tc f (x%y):=by rw[e2];simpa using a
  have p:((decide (x<0)==decide (y<0))!=true)=(decide (x<0)!=decide (y<0)):=by grind
  obtain⟨z1,z2,A⟩:=h.len;obtain⟨z3,z4,k⟩:=a.len;subst A k;refine⟨_,_,Xv.of (b.Wa _ _ rfl) ((L.Xk.and (C.Xk.and (D.Xk.and b.Xk))).mono fun E K ⟨v,j,w,i⟩=> ?_),h,a⟩;obtain⟨S,lK,oD,oS,oR,U,T,Y,Z,k3,k4,k5,k6,k7,F,R⟩:=SZ;by_cases s:x<0
  ·have J:¬0<(Xe (x.natAbs%y.natAbs)).length:=by
    grind [Ui]
   simp only[s,decide_true]at j p;simp+decide only[TP,R,Xs,reduceIte,Nat.reduceAdd,x162,i,X3,v,j,w,t.len,o,s,J,z.len,p]
  ·simp only[s,decide_false]at j p;simp+decide only[TP,R,Xs,reduceIte,Nat.reduceAdd,x162,i,X3,v,j,w,t.len,o,s,p]
theorem aq {B}(a:Std B){c d}{x y}(i:Tc c x)(j:Tc d y)(r:aC x)(s:aC y)(g:y≠0):∃e,Xv B 125 [.agg c,.agg d] (.agg e)/\Tc e (x / y):=by
 obtain⟨e,f,p,h,q⟩:=sY a i j r s g;obtain⟨t,u,l⟩:=i.len;obtain⟨v,w,m⟩:=j.len;obtain⟨e1,e2,n⟩:=h.len;obtain⟨z,A,o⟩:=q.len;subst l m n o;refine⟨_,Xv.of (a.Wa _ _ rfl) ((p.Xk.and a.Xk).mono fun E K ⟨k,b⟩=> ?_),h⟩;simp+decide only[Xo,Xs,reduceIte,Nat.reduceAdd,x125,b,X3,k]
theorem oZ {a b}{k}(c:0<b)(h:(Xe b).length<k):(Xe (Nat.gcd a b)).length<k:=Z2 (XR (Nat.gcd_le_right a c)) h
theorem OW {B}(a:Std B){c d}{n k}(t:Tc c n)(p:Tc d k)(D:aC n)(q:aC k)(h:k≠0):∃e,Xv B 74 [.agg c,.agg d] (.agg e)/\Rw e (Rat.divInt n k):=by
 obtain⟨g,M,u⟩:=sO a t p D q;have s:=NX a p;have r:0<k.natAbs:=by omega
 have b:aC (Nat.gcd n.natAbs k.natAbs:Nat):=by unfold aC at q⊢;rw[Z3];exact oZ r q
 have T:0<Nat.gcd n.natAbs k.natAbs:=Nat.gcd_pos_of_pos_right _ r;have O:((Nat.gcd n.natAbs k.natAbs:Nat):Int) ∣ n:=Int.ofNat_dvd_left.2 (Nat.gcd_dvd_left ..);have N:((Nat.gcd n.natAbs k.natAbs:Nat):Int) ∣ k:=Int.ofNat_dvd_left.2 (Nat.gcd_dvd_right ..);have L:(Rat.divInt n k).num=k.sign*n / ((Nat.gcd n.natAbs k.natAbs:Nat):Int):=by
  rw[Rat.num_divInt];congr 2;exact Nat.gcd_comm ..
 have J:((Rat.divInt n k).den:Int)=(k.natAbs:Int) / ((Nat.gcd n.natAbs k.natAbs:Nat):Int):=by
  rw[Rat.den_divInt,if_neg h,<-Int.natCast_ediv];congr 2;exact Nat.gcd_comm ..
 obtain⟨U,V,G⟩:=t.len;obtain⟨W,X,H⟩:=p.len;obtain⟨Z,g2,I⟩:=u.len;rcases Int.lt_or_lt_of_ne h with hs|hs
 ·obtain⟨Y,S,m⟩:=Dh a u b.sm;have i:aC (-((Nat.gcd n.natAbs k.natAbs:Nat):Int)):=by unfold aC at b⊢;rw[Int.natAbs_neg];exact b
  obtain⟨e,A,j⟩:=aq a t m D i (by omega);obtain⟨f,C,l⟩:=aq a p m q i (by omega);rw[show n / -((Nat.gcd n.natAbs k.natAbs:Nat):Int)=(Rat.divInt n k).num by rw[L,Int.sign_eq_neg_one_of_neg hs,Int.neg_mul,Int.one_mul,Int.ediv_neg,Int.neg_ediv_of_dvd O]]at j;rw[show k / -((Nat.gcd n.natAbs k.natAbs:Nat):Int)=((Rat.divInt n k).den:Int)by rw[J,show(k.natAbs:Int)= -k by omega,Int.ediv_neg,Int.neg_ediv_of_dvd N]]at l;obtain⟨e1,e2,x⟩:=j.len;obtain⟨Q,R,y⟩:=l.len;obtain⟨g3,g4,z⟩:=m.len;subst G H I x y z;have F:mi k=.negSucc 0:=by unfold mi;rw[if_neg h,if_pos hs]
  rw[F]at s;refine⟨_,Xv.of (a.Wa _ _ rfl) ((M.Xk.and (s.Xk.and (A.Xk.and (C.Xk.and (S.Xk.and a.Xk))))).mono fun E K ⟨e1,e2,v,w,P,o⟩=> ?_),⟨_,_,_,_,rfl,j,l⟩⟩;simp+decide only[Xo,Xs,reduceIte,Nat.reduceAdd,x74,o,X3,e1,e2,v,w,P]
 ·obtain⟨e,A,j⟩:=aq a t u D b (by omega);obtain⟨f,C,l⟩:=aq a p u q b (by omega);rw[show n / ((Nat.gcd n.natAbs k.natAbs:Nat):Int)=(Rat.divInt n k).num by rw[L,Int.sign_eq_one_of_pos hs,Int.one_mul]]at j;rw[show k / ((Nat.gcd n.natAbs k.natAbs:Nat):Int)=((Rat.divInt n k).den:Int)by rw[J,show(k.natAbs:Int)=k by omega]]at l;obtain⟨e1,e2,x⟩:=j.len;obtain⟨Q,R,y⟩:=l.len;subst G H I x y;have F:mi k=.ofNat 1:=by unfold mi;rw[if_neg h,if_neg (by omega)]
  rw[F]at s;refine⟨_,Xv.of (a.Wa _ _ rfl) ((M.Xk.and (s.Xk.and (A.Xk.and (C.Xk.and a.Xk)))).mono fun E K ⟨e1,e2,v,w,o⟩=> ?_),⟨_,_,_,_,rfl,j,l⟩⟩;simp+decide only[Xo,Xs,reduceIte,Nat.reduceAdd,x74,o,X3,e1,e2,v,w]
theorem Om {x y:Int}{a b:Nat}(c:(Xe x.natAbs).length<a)(d:(Xe y.natAbs).length<b):(Xe (x*y).natAbs).length<a+b:=by
 rw[Yp];have:=U0 x.natAbs y.natAbs;omega
theorem Sq.wD {x}(h:Sq x):(Xe x.num.natAbs).length<200000000000:=h.1
theorem Sq.qM {x}(h:Sq x):(Xe (x.den:Int).natAbs).length<200000000000:=by rw[Z3];exact h.2
theorem aS {x}(h:(Xe x.natAbs).length<1000000000000):aC x:=h
theorem Jl {B:Xq}(a:Std B){c d:N'}{x y:Rat}(M:Rw c x)(N:Rw d y)(b:Sq x)(f:Sq y):∃e,Xv B 36 [.agg c,.agg d] (.agg e)/\Rw e (x+y):=by
 obtain⟨n1,Y,n2,m2,rfl,i,g⟩:=M;obtain⟨n3,Z,n4,m4,rfl,j,h⟩:=N;obtain⟨p,H,n⟩:=Qq a i h b.num f.den;obtain⟨q,I,o⟩:=Qq a j g f.num b.den;obtain⟨r,J,t⟩:=Qq a g h b.den f.den;have s1:=Om b.wD f.qM;have s2:=Om f.wD b.qM;have s3:=Om b.qM f.qM;obtain⟨s,L,u⟩:=Dy a n o (by unfold Sm;omega) (by unfold Sm;omega);have S:aC (x.num*y.den+y.num*x.den):=by
  unfold aC;have m:=XR (Int.natAbs_add_le (x.num*y.den) (y.num*x.den));have X:=U1 (x.num*y.den).natAbs (y.num*x.den).natAbs;omega
 have P:(x.den:Int)*y.den≠0:=Int.mul_ne_zero (by have:=x.den_nz;omega) (by have:=y.den_nz;omega);obtain⟨e,m,k⟩:=OW a u t S (aS (by omega)) P;rw[<-Int.natCast_mul,Rat.divInt_ofNat,<-Rat.add_def']at k;obtain⟨p1,p2,C⟩:=n.len;obtain⟨q1,q2,D⟩:=o.len;obtain⟨r1,r2,F⟩:=t.len;obtain⟨Q,R,G⟩:=u.len;have l:=k;obtain⟨T,U,V,W,A,-,-⟩:=l;subst C D F G A;refine⟨_,Xv.of (a.Wa _ _ rfl) ((H.Xk.and (I.Xk.and (J.Xk.and (L.Xk.and (m.Xk.and a.Xk))))).mono fun E K ⟨e1,e2,v,w,z,O⟩=> ?_),k⟩;simp+decide only[Xo,Xs,reduceIte,Nat.reduceAdd,x36,O,X3,e1,e2,v,w,z]
theorem Ji {B:Xq}(a:Std B){c d:N'}{x y:Rat}(A:Rw c x)(C:Rw d y)(b:Sq x)(f:Sq y):∃e,Xv B 91 [.agg c,.agg d] (.agg e)/\Rw e (x*y):=by
 obtain⟨O,L,P,m2,rfl,g,h⟩:=A;obtain⟨Q,M,R,N,rfl,i,j⟩:=C;obtain⟨p,v,m⟩:=Qq a g i b.num f.num;obtain⟨r,w,n⟩:=Qq a h j b.den f.den;have W:=Om b.wD f.wD;have X:=Om b.qM f.qM;have F:(x.den:Int)*y.den≠0:=Int.mul_ne_zero (by have:=x.den_nz;omega) (by have:=y.den_nz;omega);obtain⟨e,z,k⟩:=OW a m n (aS (by omega)) (aS (by omega)) F;rw[<-Int.natCast_mul,Rat.divInt_ofNat,<-Rat.mul_def']at k;obtain⟨S,T,t⟩:=m.len;obtain⟨U,V,u⟩:=n.len;have l:=k;obtain⟨G,H,I,J,s,-,-⟩:=l;subst t u s;refine⟨_,Xv.of (a.Wa _ _ rfl) ((v.Xk.and (w.Xk.and (z.Xk.and a.Xk))).mono fun E K ⟨e1,o,q,D⟩=> ?_),k⟩;simp+decide only[Xo,Xs,reduceIte,Nat.reduceAdd,x91,D,X3,e1,o,q]
theorem gP {B}(a:Std B){c}{x}(e:Rw c x):Xv B 37 [.agg c] (.one (.int .i64 (mi x.num))):=by
 obtain⟨i,h,j,m2,rfl,b,f⟩:=e;have d:=NX a b;refine Xv.of (a.Wa _ _ rfl) ((d.Xk.and a.Xk).mono fun E K ⟨e1,g⟩=> ?_);simp+decide only[Xo,Xs,reduceIte,Nat.reduceAdd,x37,g,X3,e1]
theorem Dz {B}(b:Std B){c d}{n k}(h:Tc c n)(f:Tc d k)(s:aC n)(q:aC k)(a:k≠0):∃e,Xv B 167 [.agg c,.agg d] (.Wd [.agg e,.one (La0 0)])/\Rw e (Rat.divInt n k):=by
 obtain⟨e,o,i⟩:=OW b h f s q a;have p:=NX b f;have g:=i;obtain⟨u,v,w,x,m,-,-⟩:=g;obtain⟨y,z,j⟩:=h.len;obtain⟨A,C,l⟩:=f.len;subst j l m;have t:Nr (mi k) (.ofNat 0)=false:=by
  unfold mi;rw[if_neg a];split<;>rfl
 refine⟨_,Xv.of (b.Wa _ _ rfl) ((o.Xk.and (p.Xk.and b.Xk)).mono fun E K ⟨e1,e2,r⟩=> ?_),i⟩;simp+decide only[Xo,Xs,reduceIte,Nat.reduceAdd,x167,r,X3,e1,e2,t]
theorem Jk {B:Xq}(a:Std B){c d:N'}{x y:Rat}(D:Rw c x)(F:Rw d y)(b:Sq x)(f:Sq y)(h0:y≠0):∃e,Xv B 150 [.agg c,.agg d] (.Wd [.agg e,.one (La0 0)])/\Rw e (x / y):=by
 obtain⟨R,O,S,m2,rfl,g,i⟩:=D;obtain⟨T,P,U,Q,rfl,j,k⟩:=F;have n:y.num≠0:=fun h=>h0 (Rat.num_eq_zero.1 h)
 obtain⟨p,z,o⟩:=Qq a g k b.num f.den;obtain⟨r,A,q⟩:=Qq a i j b.den f.num;have Z:=Om b.wD f.qM;have s3:=Om b.qM f.wD;have I:(x.den:Int)*y.num≠0:=Int.mul_ne_zero (by have:=x.den_nz;omega) n;obtain⟨e,C,l⟩:=Dz a o q (aS (by omega)) (aS (by omega)) I;have H:Rat.divInt (x.num*y.den) (x.den*y.num)=x / y:=by
  rw[Rat.div_def,Rat.inv_def,<-Rat.divInt_mul_divInt,Rat.num_divInt_den]
 rw[H]at l;obtain⟨V,W,v⟩:=o.len;obtain⟨X,Y,w⟩:=q.len;have m:=l;obtain⟨J,L,M,N,u,-,-⟩:=m;subst v w u;refine⟨_,Xv.of (a.Wa _ _ rfl) ((z.Xk.and (A.Xk.and (C.Xk.and a.Xk))).mono fun E K ⟨e1,s,t,G⟩=> ?_),l⟩;simp+decide only[Xo,Xs,reduceIte,Nat.reduceAdd,x150,G,X3,e1,s,t]
theorem OZ {B}(h:Std B){x}(i:IB x):∃c,Xv B 18 [.one (.int .i64 x)] (.agg c)/\Rw c (x:Rat):=by
 obtain⟨c,a,n,m,d,e,b,f,g⟩:=wh h i;exact⟨c,a,n,m,d,e,b,f,g⟩
