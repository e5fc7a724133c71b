/- Package rational: any numbers. -/
import Derived.Test.YtidginchkjhobaaGreatDivB
namespace Go.Ev
open Go.Proofs.YtidginchkjhobaaGreat
def Rw (c:N')(x:Rat):Prop:=∃n m d e,c=[.bool n,m,.bool d,e]/\Tc [.bool n,m] x.num/\Tc [.bool d,e] (x.den:Int)
def Sq (x:Rat):Prop:=(Xe x.num.natAbs).length<200000000000/\(Xe x.den).length<200000000000
theorem Sq.num {x}(h:Sq x):Sm x.num:=by unfold Sm;have:=h.1;omega
theorem Sq.den {x}(h:Sq x):Sm (x.den:Int):=by unfold Sm;have:=h.2;rw[Z3];omega
theorem bl {B:Xq}(b:Std B){c d:N'}{n:Int}{k:Nat}(h:Tc c n)(f:Tc d (k:Int))(Q:Sm n)(q:Sm (k:Int))(r:0<k):∃e,Xv B 116 [.agg c,.agg d] (.agg e)/\Rw e (mkRat n k):=by
 have L:=Qh b f;have s:k≠0:=by omega
 have o:(mkRat n k).num=n / ((k.gcd n.natAbs:Nat):Int):=by rw[Rat.num_mkRat,if_neg s]
 have m:(mkRat n k).den=k / k.gcd n.natAbs:=by rw[Rat.den_mkRat,if_neg s]
 by_cases Y:(k:Int)=1
 ·have J:k=1:=by omega
  subst J;rw[Nat.gcd_one_left]at o m;refine⟨c++d,wM b h f,?_⟩;obtain⟨t,u,l⟩:=h.len;obtain⟨v,w,a⟩:=f.len;subst l a;refine⟨t,u,v,w,rfl,?_,?_⟩
  ·rw[o];simpa using h
  ·rw[m];simpa using f
 ·rw[decide_eq_false Y]at L;obtain⟨g,O,j⟩:=Hv b h f Q q;rw[Z3,Nat.gcd_comm]at j;have x:=Qh b j;have a0:0<k.gcd n.natAbs:=Nat.gcd_pos_of_pos_left _ r;have I:k.gcd n.natAbs<=k:=Nat.gcd_le_left _ r;by_cases P:((k.gcd n.natAbs:Nat):Int)=1
  ·rw[decide_eq_true P]at x;have Z:k.gcd n.natAbs=1:=by omega
   rw[Z]at o m;obtain⟨t,u,l⟩:=h.len;obtain⟨v,w,a⟩:=f.len;obtain⟨e1,e2,C⟩:=j.len;subst l a C;refine⟨_,Xv.of (b.Wa _ _ rfl) ((L.Xk.and (O.Xk.and (x.Xk.and b.Xk))).mono fun E K ⟨y,z,A,i⟩=> ?_),t,u,v,w,rfl,?_,?_⟩
   ·obtain⟨U,lK,oD,oS,oR,W,V,k1,k2,k3,k4,k5,k6,k7,H,R⟩:=SZ;simp+decide only[TP,R,Xs,reduceIte,Nat.reduceAdd,x116,i,X3,y,z,A]
   ·rw[o];simpa using h
   ·rw[m];simpa using f
  ·rw[decide_eq_false P]at x;have p:Sm ((k.gcd n.natAbs:Nat):Int):=by
    unfold Sm at q⊢;rw[Z3]at q⊢;exact Z2 (XR I) q
   obtain⟨q1,r1,v1,M,v3⟩:=kW b h j Q p (by omega);obtain⟨q2,r2,v4,N,v6⟩:=kW b f j q p (by omega);rw[<-o]at M;rw[<-Int.natCast_ediv,<-m]at N;obtain⟨t,u,l⟩:=h.len;obtain⟨v,w,a⟩:=f.len;obtain⟨e1,e2,C⟩:=j.len;obtain⟨z1,z2,X⟩:=M.len;obtain⟨z3,z4,D⟩:=N.len;obtain⟨z5,z6,F⟩:=v3.len;obtain⟨z7,z8,G⟩:=v6.len;subst l a C X D F G;refine⟨_,Xv.of (b.Wa _ _ rfl) ((L.Xk.and (O.Xk.and (x.Xk.and (v1.Xk.and (v4.Xk.and b.Xk))))).mono fun E K ⟨y,z,A,S,T,i⟩=> ?_),z1,z2,z3,z4,rfl,M,N⟩;obtain⟨U,lK,oD,oS,oR,W,V,k1,k2,k3,k4,k5,k6,k7,H,R⟩:=SZ;simp+decide only[TP,R,Xs,reduceIte,Nat.reduceAdd,x116,i,X3,y,z,A,S,T]
theorem jt {B:Xq}(a:Std B){c d:N'}{x y:Rat}(P:Rw c x)(Q:Rw d y)(g:Sq x)(h:Sq y):∃e,Xv B 157 [.agg c,.agg d] (.agg e)/\Rw e (x+y):=by
 obtain⟨n1,m1,n2,m2,rfl,i,b⟩:=P;obtain⟨n3,m3,n4,m4,rfl,j,f⟩:=Q;obtain⟨p,J,o⟩:=RD a i f g.num h.den;obtain⟨q,L,t⟩:=RD a j b h.num g.den;obtain⟨r,M,m⟩:=RD a b f g.den h.den;have b1:=g.1;have b2:=g.2;have b3:=h.1;have b4:=h.2;have s1:(Xe (x.num*y.den).natAbs).length<400000000000:=by
  rw[Yp,Z3];have:=U0 x.num.natAbs y.den;omega
 have s2:(Xe (y.num*x.den).natAbs).length<400000000000:=by
  rw[Yp,Z3];have:=U0 y.num.natAbs x.den;omega
 have Y:(Xe ((x.den:Int)*y.den).natAbs).length<400000000000:=by
  rw[Yp,Z3,Z3];have:=U0 x.den y.den;omega
 obtain⟨s,N,u⟩:=H6 a o t (by unfold Sm;omega) (by unfold Sm;omega);have Z:Sm (x.num*y.den+y.num*x.den):=by
  unfold Sm;have n:=XR (Int.natAbs_add_le (x.num*y.den) (y.num*x.den));have h6:=U1 (x.num*y.den).natAbs (y.num*x.den).natAbs;omega
 rw[<-Int.natCast_mul]at m Y;obtain⟨e,n,k⟩:=bl a u m Z (by unfold Sm;omega) (ZV (Nat.pos_of_ne_zero x.den_nz) (Nat.pos_of_ne_zero y.den_nz));rw[<-Rat.add_def']at k;obtain⟨p1,T,F⟩:=o.len;obtain⟨q1,U,G⟩:=t.len;obtain⟨r1,V,H⟩:=m.len;obtain⟨W,X,I⟩:=u.len;subst F G H I;have l:=k;obtain⟨z1,z2,z3,z4,rfl,-⟩:=l;refine⟨_,Xv.of (a.Wa _ _ rfl) ((J.Xk.and (L.Xk.and (M.Xk.and (N.Xk.and (n.Xk.and a.Xk))))).mono fun E K ⟨e1,e2,A,C,D,S⟩=> ?_),k⟩;obtain⟨cE,lK,oD,oS,oR,dS,dD,k1,k2,k3,k4,k5,k6,k7,O,R⟩:=SZ;cases v:T.scalar<;>cases w:U.scalar<;>cases z:V.scalar<;>
  simp+decide only[TP,R,Xs,reduceIte,Nat.reduceAdd,x157,S,X3,e1,e2,A,C,D,v,w,z]
theorem js {B}(a:Std B){c}{x}(i:Rw c x)(k:Sq x):∃e,Xv B 104 [.agg c] (.agg e)/\Rw e (-x):=by
 obtain⟨m,l,n,m2,rfl,b,d⟩:=i;obtain⟨p,h,f⟩:=qf a b k.num;obtain⟨o,q,g⟩:=f.len;subst g;refine⟨_,Xv.of (a.Wa _ _ rfl) ((h.Xk.and a.Xk).mono fun E K ⟨e1,j⟩=> ?_),⟨_,_,_,_,rfl,f,d⟩⟩;simp+decide only[Xo,Xs,reduceIte,Nat.reduceAdd,x104,j,X3,e1]
theorem NY {B}(a:Std B){c}{x}(e:Rw c x):Xv B 158 [.agg c] (.one (.int .i64 (mi x.num))):=by
 obtain⟨i,h,j,m2,rfl,b,f⟩:=e;have d:=sC a b;refine Xv.of (a.Wa _ _ rfl) ((d.Xk.and a.Xk).mono fun E K ⟨e1,g⟩=> ?_);simp+decide only[Xo,Xs,reduceIte,Nat.reduceAdd,x158,g,X3,e1]
theorem Rs (n){d}(a:d≠0):(mkRat n d).num.natAbs ∣ n.natAbs:=by
 rw[Rat.num_mkRat,if_neg a,Int.natAbs_ediv_of_dvd (Int.ofNat_dvd_left.2 (Nat.gcd_dvd_right ..)),Z3];exact Nat.div_dvd_of_dvd (Nat.gcd_dvd_right ..)
theorem Rt (n){d}(a:d≠0):(mkRat n d).den ∣ d:=by
 rw[Rat.den_mkRat,if_neg a];exact Nat.div_dvd_of_dvd (Nat.gcd_dvd_left ..)
theorem Ba (x y:Rat):(x*y).num=(mkRat x.num y.den).num*(mkRat y.num x.den).num/\(x*y).den=(mkRat x.num y.den).den*(mkRat y.num x.den).den:=by
 have e:x*y=mkRat x.num y.den*mkRat y.num x.den:=by rw[Rat.mkRat_mul_mkRat,Rat.mul_def',ZT]
 have a:=Rs x.num y.den_nz;have b:=Rt x.num y.den_nz;have c:=Rs y.num x.den_nz;have d:=Rt y.num x.den_nz;have f:=(mkRat x.num y.den).reduced;have g:=(mkRat y.num x.den).reduced;rw[e];generalize mkRat x.num y.den=l at *;generalize mkRat y.num x.den=r at *;have i:Nat.Coprime l.num.natAbs r.den:=Nat.Coprime.coprime_dvd_left a (Nat.Coprime.coprime_dvd_right d x.reduced);have j:Nat.Coprime r.num.natAbs l.den:=Nat.Coprime.coprime_dvd_left c (Nat.Coprime.coprime_dvd_right b y.reduced);have h:Nat.gcd (l.num*r.num).natAbs (l.den*r.den)=1:=by
  rw[Yp];exact Nat.Coprime.mul_left (Nat.Coprime.mul_right f i) (Nat.Coprime.mul_right j g)
 rw[Rat.num_mul,Rat.den_mul,h];simp
theorem dZ {x}{y}(h:x ∣ y)(c:0<y){a}(b:(Xe y).length<a):(Xe x).length<a:=Z2 (XR (Nat.le_of_dvd c h)) b
theorem iU {x}{y}(h:x ∣ y){a}(b:(Xe y).length<a)(c:y=0->x=0):(Xe x).length<a:=by
 rcases Yk y with h0|h0
 ·rw[c h0];rw[h0]at b;exact b
 ·exact dZ h h0 b
theorem Nd {n}{d}(h:n.natAbs=0):(mkRat n d).num.natAbs=0:=by
 have :n=0:=by omega
 rw[this];simp
theorem OY {B:Xq}(a:Std B){c d:N'}{x y:Rat}(N:Rw c x)(O:Rw d y)(b:Sq x)(f:Sq y):∃e,Xv B 64 [.agg c,.agg d] (.agg e)/\Rw e (x*y):=by
 obtain⟨n1,m1,n2,m2,rfl,j,k⟩:=N;obtain⟨n3,m3,n4,m4,rfl,m,n⟩:=O;obtain⟨l,H,P⟩:=bl a j n b.num f.den (Nat.pos_of_ne_zero y.den_nz);obtain⟨r,I,S⟩:=bl a m k f.num b.den (Nat.pos_of_ne_zero x.den_nz);obtain⟨e1,e2⟩:=Ba x y;have g:=Rs x.num y.den_nz;have i:=Rt x.num y.den_nz;have z:=Rs y.num x.den_nz;have A:=Rt y.num x.den_nz;have V:Sm (mkRat x.num y.den).num:=by unfold Sm;have:=iU g b.1 (fun h=>Nd h);omega
 have W:Sm ((mkRat x.num y.den).den:Int):=by unfold Sm;rw[Z3];have:=dZ i (Nat.pos_of_ne_zero y.den_nz) f.2;omega
 have X:Sm (mkRat y.num x.den).num:=by unfold Sm;have:=iU z f.1 (fun h=>Nd h);omega
 have Y:Sm ((mkRat y.num x.den).den:Int):=by unfold Sm;rw[Z3];have:=dZ A (Nat.pos_of_ne_zero x.den_nz) b.2;omega
 obtain⟨l1,l2,l3,l4,rfl,o,s⟩:=P;obtain⟨r1,r2,r3,r4,rfl,v,w⟩:=S;obtain⟨p,J,t⟩:=RD a o v V X;obtain⟨q,L,u⟩:=RD a s w W Y;rw[<-e1]at t;rw[<-Int.natCast_mul,<-e2]at u;obtain⟨p1,T,F⟩:=t.len;obtain⟨q1,U,G⟩:=u.len;subst F G;refine⟨_,Xv.of (a.Wa _ _ rfl) ((H.Xk.and (I.Xk.and (J.Xk.and (L.Xk.and a.Xk)))).mono fun E K ⟨e1,e2,C,D,Q⟩=> ?_),⟨_,_,_,_,rfl,t,u⟩⟩;obtain⟨Z,lK,oD,oS,oR,dS,dD,k1,k2,k3,k4,k5,k6,k7,M,R⟩:=SZ;cases g:T.scalar<;>cases i:U.scalar<;>
  simp+decide only[TP,R,Xs,reduceIte,Nat.reduceAdd,x64,Q,X3,e1,e2,C,D,g,i]
theorem inv_pos {x:Rat}(h:0<x.num):(x⁻¹).num=x.den/\(x⁻¹).den=x.num.natAbs:=by
 rw[Rat.num_inv,Rat.den_inv,if_neg (by omega),Int.sign_eq_one_of_pos h,Int.one_mul];exact⟨rfl,rfl⟩
theorem inv_neg {x:Rat}(h:x.num<0):(x⁻¹).num= -(x.den:Int)/\(x⁻¹).den=x.num.natAbs:=by
 rw[Rat.num_inv,Rat.den_inv,if_neg (by omega),Int.sign_eq_neg_one_of_neg h,Int.neg_mul,Int.one_mul];exact⟨rfl,rfl⟩
theorem Sq.inv {x:Rat}(h:Sq x):Sq x⁻¹:=by
 rcases Int.lt_trichotomy x.num 0 with h1|h1|h1
 ·obtain⟨a,b⟩:=inv_neg h1;unfold Sq;rw[a,b,Int.natAbs_neg,Z3];exact⟨h.2,h.1⟩
 ·have :x=0:=Rat.num_eq_zero.1 h1;subst this;rw[Rat.inv_zero];exact h
 ·obtain⟨a,b⟩:=inv_pos h1;unfold Sq;rw[a,b,Z3];exact⟨h.2,h.1⟩
theorem cg {B:Xq}(d:Std B){c:N'}{x:Rat}(z:Rw c x)(r:Sq x)(h0:x≠0):∃e,Xv B 102 [.agg c] (.Wd [.agg e,.one (La0 0)])/\Rw e x⁻¹:=by
 obtain⟨M,L,N,m2,rfl,f,i⟩:=z;have j:=sC d f;have g:x.num≠0:=fun h=>h0 (Rat.num_eq_zero.1 h)
 rcases Int.lt_or_lt_of_ne g with h1|h1
 ·obtain⟨a,b⟩:=inv_neg h1;obtain⟨p,S,n⟩:=qf d i r.den;obtain⟨q,T,o⟩:=qf d f r.num;rw[<-a]at n;rw[show -x.num=((x⁻¹).den:Int)by rw[b];omega]at o;obtain⟨U,V,w⟩:=n.len;obtain⟨W,X,y⟩:=o.len;subst w y;have k:mi x.num=.negSucc 0:=by unfold mi;rw[if_neg g,if_pos h1]
  rw[k]at j;refine⟨_,Xv.of (d.Wa _ _ rfl) ((j.Xk.and (S.Xk.and (T.Xk.and d.Xk))).mono fun E K ⟨e1,e2,v,m⟩=> ?_),⟨_,_,_,_,rfl,n,o⟩⟩;obtain⟨s,J,O,Q,P,u,t,A,C,D,F,G,H,I,l,R⟩:=SZ;simp+decide only[TP,R,Xs,reduceIte,Nat.reduceAdd,x102,m,X3,e1,e2,v]
 ·obtain⟨a,b⟩:=inv_pos h1;have k:mi x.num=.ofNat 1:=by unfold mi;rw[if_neg g,if_neg (by omega)]
  rw[k]at j;refine⟨[.bool N,m2,.bool M,L],Xv.of (d.Wa _ _ rfl) ((j.Xk.and d.Xk).mono fun E K ⟨e1,m⟩=> ?_),⟨_,_,_,_,rfl,by rw[a];exact i,by rw[b,show((x.num.natAbs:Nat):Int)=x.num by omega];exact f⟩⟩;obtain⟨s,J,O,Q,P,u,t,A,C,D,F,G,H,I,l,R⟩:=SZ;simp+decide only[TP,R,Xs,reduceIte,Nat.reduceAdd,x102,m,X3,e1]
theorem Dx {B}(a:Std B){c d}{x y}(f:Rw c x)(g:Rw d y)(p:Sq x)(h:Sq y)(h0:y≠0):∃e,Xv B 143 [.agg c,.agg d] (.Wd [.agg e,.one (La0 0)])/\Rw e (x / y):=by
 obtain⟨v,q,i⟩:=cg a g h h0;obtain⟨w,w1,b⟩:=OY a f i p h.inv;rw[<-Rat.div_def]at b;have r:=b;obtain⟨N,J,O,m2,rfl,k,l⟩:=f;obtain⟨P,L,Q,M,rfl,m,n⟩:=g;obtain⟨V,W,X,Y,rfl,-,-⟩:=i;obtain⟨Z,z6,z7,z8,rfl,-,-⟩:=b;refine⟨_,Xv.of (a.Wa _ _ rfl) ((q.Xk.and (w1.Xk.and a.Xk)).mono fun E K ⟨e1,e2,o⟩=> ?_),r⟩;obtain⟨s,I,S,U,T,u,t,z,A,C,D,F,G,H,j,R⟩:=SZ;simp+decide only[TP,R,Xs,reduceIte,Nat.reduceAdd,x143,o,X3,e1,e2]
