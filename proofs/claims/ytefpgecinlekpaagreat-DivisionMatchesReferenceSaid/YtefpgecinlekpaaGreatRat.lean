/- Package rational: any numbers. -/
import Derived.Test.YtefpgecinlekpaaGreatDivB
namespace Go.Proofs.YtefpgecinlekpaaGreat
open Go.Ev Go.Num
def RX (c:List PL)(x:Rat):Prop:=∃n m d e,c=[.bool n,m,.bool d,e]/\UB [.bool n,m] x.num/\UB [.bool d,e] (x.den:Int)
def Sq (x:Rat):Prop:=(Xd x.num.natAbs).length<10000000/\(Xd x.den).length<10000000
theorem Sq.num {x:Rat}(h:Sq x):Sm x.num:=by unfold Sm;have:=h.1;omega
theorem Sq.den {x:Rat}(h:Sq x):Sm (x.den:Int):=by unfold Sm;have:=h.2;rw[ZY];omega
theorem Ny {B:Xr}(b:Std B){c d:List PL}{n:Int}{k:Nat}(h:UB c n)(f:UB d (k:Int))(Q:Sm n)(q:Sm (k:Int))(r:0<k):∃e,Xs B 130 [.agg c,.agg d] (.agg e)/\RX e (mkRat n k):=by
 have L:=Ru b f;have s:k≠0:=by omega
 have o:(mkRat n k).num=n / ((k.gcd n.natAbs:Nat):Int):=by rw[Rat.num_mkRat,if_neg s]
 have m:(mkRat n k).den=k / k.gcd n.natAbs:=by rw[Rat.den_mkRat,if_neg s]
 by_cases Y:(k:Int)=1
 ·have J:k=1:=by omega
  subst J;rw[Nat.gcd_one_left]at o m;refine⟨c++d,Pm b h f,?_⟩;obtain⟨t,u,l⟩:=h.len;obtain⟨v,w,a⟩:=f.len;subst l a;refine⟨t,u,v,w,rfl,?_,?_⟩
  ·rw[o];simpa using h
  ·rw[m];simpa using f
 ·rw[decide_eq_false Y]at L;obtain⟨g,O,j⟩:=B5 b h f Q q;rw[ZY,Nat.gcd_comm]at j;have x:=Ru b j;have a0:0<k.gcd n.natAbs:=Nat.gcd_pos_of_pos_left _ r;have I:k.gcd n.natAbs<=k:=Nat.gcd_le_left _ r;by_cases P:((k.gcd n.natAbs:Nat):Int)=1
  ·rw[decide_eq_true P]at x;have Z:k.gcd n.natAbs=1:=by omega
   rw[Z]at o m;obtain⟨t,u,l⟩:=h.len;obtain⟨v,w,a⟩:=f.len;obtain⟨e1,e2,C⟩:=j.len;subst l a C;refine⟨_,Xs.of (b.X6 _ _ rfl) ((L.Xi.and (O.Xi.and (x.Xi.and b.Xi))).mono fun E K ⟨y,z,A,i⟩=> ?_),t,u,v,w,rfl,?_,?_⟩
   ·obtain⟨U,lK,oD,oS,oR,W,V,k1,k2,k3,k4,k5,k6,k7,H,R⟩:=T7;simp(decide:=true)only[Tj,R,Xq,reduceIte,Nat.reduceAdd,x130,i,XW,y,z,A]
   ·rw[o];simpa using h
   ·rw[m];simpa using f
  ·rw[decide_eq_false P]at x;have p:Sm ((k.gcd n.natAbs:Nat):Int):=by
    unfold Sm at q⊢;rw[ZY]at q⊢;exact Z5 (XM I) q
   obtain⟨q1,r1,v1,M,v3⟩:=gB b h j Q p (by omega);obtain⟨q2,r2,v4,N,v6⟩:=gB b f j q p (by omega);rw[<-o]at M;rw[<-Int.natCast_ediv,<-m]at N;obtain⟨t,u,l⟩:=h.len;obtain⟨v,w,a⟩:=f.len;obtain⟨e1,e2,C⟩:=j.len;obtain⟨z1,z2,X⟩:=M.len;obtain⟨z3,z4,D⟩:=N.len;obtain⟨z5,z6,F⟩:=v3.len;obtain⟨z7,z8,G⟩:=v6.len;subst l a C X D F G;refine⟨_,Xs.of (b.X6 _ _ rfl) ((L.Xi.and (O.Xi.and (x.Xi.and (v1.Xi.and (v4.Xi.and b.Xi))))).mono fun E K ⟨y,z,A,S,T,i⟩=> ?_),z1,z2,z3,z4,rfl,M,N⟩;obtain⟨U,lK,oD,oS,oR,W,V,k1,k2,k3,k4,k5,k6,k7,H,R⟩:=T7;simp(decide:=true)only[Tj,R,Xq,reduceIte,Nat.reduceAdd,x130,i,XW,y,z,A,S,T]
theorem nw {B:Xr}(a:Std B){c d:List PL}{x y:Rat}(O:RX c x)(P:RX d y)(g:Sq x)(h:Sq y):∃e,Xs B 129 [.agg c,.agg d] (.agg e)/\RX e (x+y):=by
 obtain⟨n1,m1,n2,m2,rfl,i,b⟩:=O;obtain⟨n3,m3,n4,m4,rfl,j,f⟩:=P;obtain⟨p,I,o⟩:=WX a i f g.num h.den;obtain⟨q,J,t⟩:=WX a j b h.num g.den;obtain⟨r,L,m⟩:=WX a b f g.den h.den;have Z:=g.1;have b2:=g.2;have b3:=h.1;have b4:=h.2;have s1:(Xd (x.num*y.den).natAbs).length<20000000:=by
  rw[Yg,ZY];have:=Vq x.num.natAbs y.den;omega
 have s2:(Xd (y.num*x.den).natAbs).length<20000000:=by
  rw[Yg,ZY];have:=Vq y.num.natAbs x.den;omega
 have X:(Xd ((x.den:Int)*y.den).natAbs).length<20000000:=by
  rw[Yg,ZY,ZY];have:=Vq x.den y.den;omega
 obtain⟨s,M,u⟩:=uj a o t (by unfold Sm;omega) (by unfold Sm;omega);have Y:Sm (x.num*y.den+y.num*x.den):=by
  unfold Sm;have n:=XM (Int.natAbs_add_le (x.num*y.den) (y.num*x.den));have h6:=Uu (x.num*y.den).natAbs (y.num*x.den).natAbs;omega
 rw[<-Int.natCast_mul]at m X;obtain⟨e,n,k⟩:=Ny a u m Y (by unfold Sm;omega) (Nat.mul_pos (Nat.pos_of_ne_zero x.den_nz) (Nat.pos_of_ne_zero y.den_nz));rw[<-Rat.add_def']at k;obtain⟨p1,S,D⟩:=o.len;obtain⟨q1,T,F⟩:=t.len;obtain⟨r1,U,G⟩:=m.len;obtain⟨V,W,H⟩:=u.len;subst D F G H;have l:=k;obtain⟨z1,z2,z3,z4,rfl,-⟩:=l;refine⟨_,Xs.of (a.X6 _ _ rfl) ((I.Xi.and (J.Xi.and (L.Xi.and (M.Xi.and (n.Xi.and a.Xi))))).mono fun E K ⟨e1,e2,e3,A,C,Q⟩=> ?_),k⟩;obtain⟨cE,lK,oD,oS,oR,dS,dD,k1,k2,k3,k4,k5,k6,k7,N,R⟩:=T7;cases v:S.scalar<;>cases w:T.scalar<;>cases z:U.scalar<;>
  simp(decide:=true)only[Tj,R,Xq,reduceIte,Nat.reduceAdd,x129,Q,XW,e1,e2,e3,A,C,v,w,z]
theorem nu {B:Xr}(a:Std B){c:List PL}{x:Rat}(i:RX c x)(k:Sq x):∃e,Xs B 138 [.agg c] (.agg e)/\RX e (-x):=by
 obtain⟨n,l,o,m,rfl,b,d⟩:=i;obtain⟨p,h,f⟩:=kV a b k.num;obtain⟨q,r,g⟩:=f.len;subst g;refine⟨_,Xs.of (a.X6 _ _ rfl) ((h.Xi.and a.Xi).mono fun E K ⟨e1,j⟩=> ?_),⟨_,_,_,_,rfl,f,d⟩⟩;simp(decide:=true)only[Xp,Xq,reduceIte,Nat.reduceAdd,x138,j,XW,e1]
theorem Rt {B:Xr}(a:Std B){c:List PL}{x:Rat}(e:RX c x):Xs B 132 [.agg c] (.one (.int .i64 (eT x.num))):=by
 obtain⟨j,h,k,i,rfl,b,f⟩:=e;have d:=NY a b;refine Xs.of (a.X6 _ _ rfl) ((d.Xi.and a.Xi).mono fun E K ⟨e1,g⟩=> ?_);simp(decide:=true)only[Xp,Xq,reduceIte,Nat.reduceAdd,x132,g,XW,e1]
end Go.Proofs.YtefpgecinlekpaaGreat
namespace Go.Num
theorem SF (n:Int){d:Nat}(a:d≠0):(mkRat n d).num.natAbs ∣ n.natAbs:=by
 rw[Rat.num_mkRat,if_neg a,Int.natAbs_ediv_of_dvd (Int.ofNat_dvd_left.2 (Nat.gcd_dvd_right ..)),ZY];exact Nat.div_dvd_of_dvd (Nat.gcd_dvd_right ..)
theorem SG (n:Int){d:Nat}(a:d≠0):(mkRat n d).den ∣ d:=by
 rw[Rat.den_mkRat,if_neg a];exact Nat.div_dvd_of_dvd (Nat.gcd_dvd_left ..)
theorem vB (x y:Rat):(x*y).num=(mkRat x.num y.den).num*(mkRat y.num x.den).num/\(x*y).den=(mkRat x.num y.den).den*(mkRat y.num x.den).den:=by
 have e:x*y=mkRat x.num y.den*mkRat y.num x.den:=by rw[Rat.mkRat_mul_mkRat,Rat.mul_def',ZK]
 have a:=SF x.num y.den_nz;have b:=SG x.num y.den_nz;have c:=SF y.num x.den_nz;have d:=SG y.num x.den_nz;have f:=(mkRat x.num y.den).reduced;have g:=(mkRat y.num x.den).reduced;rw[e];generalize mkRat x.num y.den=l at *;generalize mkRat y.num x.den=r at *;have i:Nat.Coprime l.num.natAbs r.den:=Nat.Coprime.coprime_dvd_left a (Nat.Coprime.coprime_dvd_right d x.reduced);have j:Nat.Coprime r.num.natAbs l.den:=Nat.Coprime.coprime_dvd_left c (Nat.Coprime.coprime_dvd_right b y.reduced);have h:Nat.gcd (l.num*r.num).natAbs (l.den*r.den)=1:=by
  rw[Yg];exact Nat.Coprime.mul_left (Nat.Coprime.mul_right f i) (Nat.Coprime.mul_right j g)
 rw[Rat.num_mul,Rat.den_mul,h];simp
end Go.Num
namespace Go.Proofs.YtefpgecinlekpaaGreat
open Go.Ev Go.Num
theorem bt {x:Nat}{y:Nat}(h:x ∣ y)(c:0<y){a:Nat}(b:(Xd y).length<a):(Xd x).length<a:=Z5 (XM (Nat.le_of_dvd c h)) b
theorem eK {x:Nat}{y:Nat}(h:x ∣ y){a:Nat}(b:(Xd y).length<a)(c:y=0->x=0):(Xd x).length<a:=by
 rcases Z8 y with h0|h0
 ·rw[c h0];rw[h0]at b;exact b
 ·exact bt h h0 b
theorem P7 {n:Int}{d:Nat}(h:n.natAbs=0):(mkRat n d).num.natAbs=0:=by
 have :n=0:=by omega
 rw[this];simp
theorem ff {B:Xr}(a:Std B){c d:List PL}{x y:Rat}(M:RX c x)(N:RX d y)(b:Sq x)(f:Sq y):∃e,Xs B 90 [.agg c,.agg d] (.agg e)/\RX e (x*y):=by
 obtain⟨n1,m1,n2,m2,rfl,j,k⟩:=M;obtain⟨n3,m3,n4,m4,rfl,m,n⟩:=N;obtain⟨l,G,O⟩:=Ny a j n b.num f.den (Nat.pos_of_ne_zero y.den_nz);obtain⟨r,H,Q⟩:=Ny a m k f.num b.den (Nat.pos_of_ne_zero x.den_nz);obtain⟨e1,e2⟩:=vB x y;have g:=SF x.num y.den_nz;have i:=SG x.num y.den_nz;have z:=SF y.num x.den_nz;have A:=SG y.num x.den_nz;have U:Sm (mkRat x.num y.den).num:=by unfold Sm;have:=eK g b.1 (fun h=>P7 h);omega
 have V:Sm ((mkRat x.num y.den).den:Int):=by unfold Sm;rw[ZY];have:=bt i (Nat.pos_of_ne_zero y.den_nz) f.2;omega
 have W:Sm (mkRat y.num x.den).num:=by unfold Sm;have:=eK z f.1 (fun h=>P7 h);omega
 have X:Sm ((mkRat y.num x.den).den:Int):=by unfold Sm;rw[ZY];have:=bt A (Nat.pos_of_ne_zero x.den_nz) b.2;omega
 obtain⟨l1,l2,l3,l4,rfl,o,s⟩:=O;obtain⟨r1,r2,r3,r4,rfl,v,w⟩:=Q;obtain⟨p,I,t⟩:=WX a o v U W;obtain⟨q,J,u⟩:=WX a s w V X;rw[<-e1]at t;rw[<-Int.natCast_mul,<-e2]at u;obtain⟨p1,S,D⟩:=t.len;obtain⟨q1,T,F⟩:=u.len;subst D F;refine⟨_,Xs.of (a.X6 _ _ rfl) ((G.Xi.and (H.Xi.and (I.Xi.and (J.Xi.and a.Xi)))).mono fun E K ⟨e1,e2,e3,C,P⟩=> ?_),⟨_,_,_,_,rfl,t,u⟩⟩;obtain⟨Y,lK,oD,oS,oR,dS,Z,k1,k2,k3,k4,k5,k6,k7,L,R⟩:=T7;cases g:S.scalar<;>cases i:T.scalar<;>
  simp(decide:=true)only[Tj,R,Xq,reduceIte,Nat.reduceAdd,x90,P,XW,e1,e2,e3,C,g,i]
theorem inv_pos {x:Rat}(h:0<x.num):(x⁻¹).num=x.den/\(x⁻¹).den=x.num.natAbs:=by
 rw[Rat.num_inv,Rat.den_inv,if_neg (by omega),Int.sign_eq_one_of_pos h,Int.one_mul];exact⟨rfl,rfl⟩
theorem inv_neg {x:Rat}(h:x.num<0):(x⁻¹).num= -(x.den:Int)/\(x⁻¹).den=x.num.natAbs:=by
 rw[Rat.num_inv,Rat.den_inv,if_neg (by omega),Int.sign_eq_neg_one_of_neg h,Int.neg_mul,Int.one_mul];exact⟨rfl,rfl⟩
theorem Sq.inv {x:Rat}(h:Sq x):Sq x⁻¹:=by
 rcases Int.lt_trichotomy x.num 0 with h1|h1|h1
 ·obtain⟨a,b⟩:=inv_neg h1;unfold Sq;rw[a,b,Int.natAbs_neg,ZY];exact⟨h.2,h.1⟩
 ·have :x=0:=Rat.num_eq_zero.1 h1;subst this;rw[Rat.inv_zero];exact h
 ·obtain⟨a,b⟩:=inv_pos h1;unfold Sq;rw[a,b,ZY];exact⟨h.2,h.1⟩
theorem nv {B:Xr}(d:Std B){c:List PL}{x:Rat}(y:RX c x)(r:Sq x)(h0:x≠0):∃e,Xs B 136 [.agg c] (.XY [.agg e,.one (.int .i64 (.ofNat 0))])/\RX e x⁻¹:=by
 obtain⟨M,J,N,L,rfl,f,i⟩:=y;have j:=NY d f;have g:x.num≠0:=fun h=>h0 (Rat.num_eq_zero.1 h)
 rcases Int.lt_or_lt_of_ne g with h1|h1
 ·obtain⟨a,b⟩:=inv_neg h1;obtain⟨p,S,n⟩:=kV d i r.den;obtain⟨q,T,o⟩:=kV d f r.num;rw[<-a]at n;rw[show -x.num=((x⁻¹).den:Int)by rw[b];omega]at o;obtain⟨U,V,v⟩:=n.len;obtain⟨W,X,w⟩:=o.len;subst v w;have k:eT x.num=.negSucc 0:=by unfold eT;rw[if_neg g,if_pos h1]
  rw[k]at j;refine⟨_,Xs.of (d.X6 _ _ rfl) ((j.Xi.and (S.Xi.and (T.Xi.and d.Xi))).mono fun E K ⟨e1,e2,e3,m⟩=> ?_),⟨_,_,_,_,rfl,n,o⟩⟩;obtain⟨s,I,O,Q,P,u,t,z,A,C,D,F,G,H,l,R⟩:=T7;simp(decide:=true)only[Tj,R,Xq,reduceIte,Nat.reduceAdd,x136,m,XW,e1,e2,e3]
 ·obtain⟨a,b⟩:=inv_pos h1;have k:eT x.num=.ofNat 1:=by unfold eT;rw[if_neg g,if_neg (by omega)]
  rw[k]at j;refine⟨[.bool N,L,.bool M,J],Xs.of (d.X6 _ _ rfl) ((j.Xi.and d.Xi).mono fun E K ⟨e1,m⟩=> ?_),⟨_,_,_,_,rfl,by rw[a];exact i,by rw[b,show((x.num.natAbs:Nat):Int)=x.num by omega];exact f⟩⟩;obtain⟨s,I,O,Q,P,u,t,z,A,C,D,F,G,H,l,R⟩:=T7;simp(decide:=true)only[Tj,R,Xq,reduceIte,Nat.reduceAdd,x136,m,XW,e1]
theorem yg {B:Xr}(a:Std B){c d:List PL}{x y:Rat}(f:RX c x)(g:RX d y)(p:Sq x)(h:Sq y)(h0:y≠0):∃e,Xs B 104 [.agg c,.agg d] (.XY [.agg e,.one (.int .i64 (.ofNat 0))])/\RX e (x / y):=by
 obtain⟨v,q,i⟩:=nv a g h h0;obtain⟨w,w1,b⟩:=ff a f i p h.inv;rw[<-Rat.div_def]at b;have r:=b;obtain⟨O,J,P,L,rfl,k,l⟩:=f;obtain⟨Q,M,S,N,rfl,m,n⟩:=g;obtain⟨W,X,Y,Z,rfl,-,-⟩:=i;obtain⟨z5,z6,z7,z8,rfl,-,-⟩:=b;refine⟨_,Xs.of (a.X6 _ _ rfl) ((q.Xi.and (w1.Xi.and a.Xi)).mono fun E K ⟨e1,e2,o⟩=> ?_),r⟩;obtain⟨s,I,T,V,U,u,t,z,A,C,D,F,G,H,j,R⟩:=T7;simp(decide:=true)only[Tj,R,Xq,reduceIte,Nat.reduceAdd,x104,o,XW,e1,e2]
end Go.Proofs.YtefpgecinlekpaaGreat
