/- Package rational: any numbers. -/
import Derived.Test.YtefpgecinlekpaaGreatDivB
namespace Go.Proofs.YtefpgecinlekpaaGreat
open Go.Ev Go.Num
def IsQ (c:List PL)(x:Rat):Prop:=∃n m d e,c=[.bool n,m,.bool d,e]/\IsI [.bool n,m] x.num/\IsI [.bool d,e] (x.den:Int)
def Sq (x:Rat):Prop:=(Xc x.num.natAbs).length<10000000/\(Xc x.den).length<10000000
theorem Sq.num {x:Rat}(h:Sq x):Sm x.num:=by unfold Sm;have:=h.1;omega
theorem Sq.den {x:Rat}(h:Sq x):Sm (x.den:Int):=by unfold Sm;have:=h.2;rw[ZV];omega
theorem lowest_ret {B:Base}(hB:Std B){c d:List PL}{n:Int}{k:Nat}(hc:IsI c n)(hd:IsI d (k:Int))(hn:Sm n)(hk:Sm (k:Int))(hk0:0<k):∃e,Ret B 130 [.agg c,.agg d] (.agg e)/\IsQ e (mkRat n k):=by
 have o1:=Tx hB hd
 have hk1:k≠0:=by omega
 have en:(mkRat n k).num=n / ((k.gcd n.natAbs:Nat):Int):=by rw[Rat.num_mkRat,if_neg hk1]
 have ed:(mkRat n k).den=k / k.gcd n.natAbs:=by rw[Rat.den_mkRat,if_neg hk1]
 by_cases h1:(k:Int)=1
 ·have hk2:k=1:=by omega
  subst hk2
  rw[Nat.gcd_one_left]at en ed
  refine⟨c++d,lowest_one hB hc hd,?_⟩
  obtain⟨c1,c2,ec⟩:=hc.len
  obtain⟨d1,d2,ed'⟩:=hd.len
  subst ec ed'
  refine⟨c1,c2,d1,d2,rfl,?_,?_⟩
  ·rw[en];simpa using hc
  ·rw[ed];simpa using hd
 ·rw[decide_eq_false h1]at o1
  obtain⟨g,g1,g2⟩:=gcd_ret hB hc hd hn hk
  rw[ZV,Nat.gcd_comm]at g2
  have o2:=Tx hB g2
  have hg0:0<k.gcd n.natAbs:=Nat.gcd_pos_of_pos_left _ hk0
  have hgk:k.gcd n.natAbs<=k:=Nat.gcd_le_left _ hk0
  by_cases h2:((k.gcd n.natAbs:Nat):Int)=1
  ·rw[decide_eq_true h2]at o2
   have h3:k.gcd n.natAbs=1:=by omega
   rw[h3]at en ed
   obtain⟨c1,c2,ec⟩:=hc.len
   obtain⟨d1,d2,ed'⟩:=hd.len
   obtain⟨e1,e2,eg⟩:=g2.len
   subst ec ed' eg
   refine⟨_,Ret.of (hB.tab _ _ rfl) ((o1.evt.and (g1.evt.and (o2.evt.and hB.evt))).mono fun E K ⟨a1,a2,a3,hmd⟩=> ?_),c1,c2,d1,d2,rfl,?_,?_⟩
   ·obtain⟨cE,lK,oD,oS,oR,dS,dD,k1,k2,k3,k4,k5,k6,k7,hLo,R⟩:=EVR
    simp(decide:=true)only[EVQ,R,EVN,reduceIte,Nat.reduceAdd,x130,hmd,MDS,a1,a2,a3]
   ·rw[en];simpa using hc
   ·rw[ed];simpa using hd
  ·rw[decide_eq_false h2]at o2
   have hgm:Sm ((k.gcd n.natAbs:Nat):Int):=by
    unfold Sm at hk⊢
    rw[ZV]at hk⊢
    exact Z5 (Xs hgk) hk
   obtain⟨q1,r1,v1,v2,v3⟩:=divmod_ret hB hc g2 hn hgm (by omega)
   obtain⟨q2,r2,v4,v5,v6⟩:=divmod_ret hB hd g2 hk hgm (by omega)
   rw[<-en]at v2
   rw[<-Int.natCast_ediv,<-ed]at v5
   obtain⟨c1,c2,ec⟩:=hc.len
   obtain⟨d1,d2,ed'⟩:=hd.len
   obtain⟨e1,e2,eg⟩:=g2.len
   obtain⟨z1,z2,ez⟩:=v2.len
   obtain⟨z3,z4,ez2⟩:=v5.len
   obtain⟨z5,z6,ez3⟩:=v3.len
   obtain⟨z7,z8,ez4⟩:=v6.len
   subst ec ed' eg ez ez2 ez3 ez4
   refine⟨_,Ret.of (hB.tab _ _ rfl) ((o1.evt.and (g1.evt.and (o2.evt.and (v1.evt.and (v4.evt.and hB.evt))))).mono fun E K ⟨a1,a2,a3,a4,a5,hmd⟩=> ?_),z1,z2,z3,z4,rfl,v2,v5⟩
   obtain⟨cE,lK,oD,oS,oR,dS,dD,k1,k2,k3,k4,k5,k6,k7,hLo,R⟩:=EVR
   simp(decide:=true)only[EVQ,R,EVN,reduceIte,Nat.reduceAdd,x130,hmd,MDS,a1,a2,a3,a4,a5]
theorem ratAdd_q {B:Base}(hB:Std B){c d:List PL}{x y:Rat}(hc:IsQ c x)(hd:IsQ d y)(hx:Sq x)(hy:Sq y):∃e,Ret B 129 [.agg c,.agg d] (.agg e)/\IsQ e (x+y):=by
 obtain⟨n1,m1,n2,m2,rfl,hc1,hc2⟩:=hc
 obtain⟨n3,m3,n4,m4,rfl,hd1,hd2⟩:=hd
 obtain⟨p,h1,hp⟩:=U5 hB hc1 hd2 hx.num hy.den
 obtain⟨q,h2,hq⟩:=U5 hB hd1 hc2 hy.num hx.den
 obtain⟨r,h3,hr⟩:=U5 hB hc2 hd2 hx.den hy.den
 have b1:=hx.1
 have b2:=hx.2
 have b3:=hy.1
 have b4:=hy.2
 have s1:(Xc (x.num*y.den).natAbs).length<20000000:=by
  rw[Yi,ZV];have:=Vt x.num.natAbs y.den;omega
 have s2:(Xc (y.num*x.den).natAbs).length<20000000:=by
  rw[Yi,ZV];have:=Vt y.num.natAbs x.den;omega
 have s3:(Xc ((x.den:Int)*y.den).natAbs).length<20000000:=by
  rw[Yi,ZV,ZV];have:=Vt x.den y.den;omega
 obtain⟨s,h4,hs⟩:=add_ret hB hp hq (by unfold Sm;omega) (by unfold Sm;omega)
 have s4:Sm (x.num*y.den+y.num*x.den):=by
  unfold Sm
  have h5:=Xs (Int.natAbs_add_le (x.num*y.den) (y.num*x.den))
  have h6:=Vu (x.num*y.den).natAbs (y.num*x.den).natAbs
  omega
 rw[<-Int.natCast_mul]at hr s3
 obtain⟨e,h5,he⟩:=lowest_ret hB hs hr s4 (by unfold Sm;omega) (Nat.mul_pos (Nat.pos_of_ne_zero x.den_nz) (Nat.pos_of_ne_zero y.den_nz))
 rw[<-Rat.add_def']at he
 obtain⟨p1,p2,ep⟩:=hp.len
 obtain⟨q1,q2,eq⟩:=hq.len
 obtain⟨r1,r2,er⟩:=hr.len
 obtain⟨s1',s2',es⟩:=hs.len
 subst ep eq er es
 have he':=he
 obtain⟨z1,z2,z3,z4,rfl,-⟩:=he'
 refine⟨_,Ret.of (hB.tab _ _ rfl) ((h1.evt.and (h2.evt.and (h3.evt.and (h4.evt.and (h5.evt.and hB.evt))))).mono fun E K ⟨e1,e2,e3,e4,e5,hm⟩=> ?_),he⟩
 obtain⟨cE,lK,oD,oS,oR,dS,dD,k1,k2,k3,k4,k5,k6,k7,hLo,R⟩:=EVR
 cases a1:p2.scalar<;>cases a2:q2.scalar<;>cases a3:r2.scalar<;>
  simp(decide:=true)only[EVQ,R,EVN,reduceIte,Nat.reduceAdd,x129,hm,MDS,e1,e2,e3,e4,e5,a1,a2,a3]
theorem ratNeg_q {B:Base}(hB:Std B){c:List PL}{x:Rat}(hc:IsQ c x)(hx:Sq x):∃e,Ret B 138 [.agg c] (.agg e)/\IsQ e (-x):=by
 obtain⟨n1,m1,n2,m2,rfl,hc1,hc2⟩:=hc
 obtain⟨p,h1,hp⟩:=neg_ret hB hc1 hx.num
 obtain⟨p1,p2,ep⟩:=hp.len
 subst ep
 refine⟨_,Ret.of (hB.tab _ _ rfl) ((h1.evt.and hB.evt).mono fun E K ⟨e1,hm⟩=> ?_),⟨_,_,_,_,rfl,hp,hc2⟩⟩
 simp(decide:=true)only[EVS,EVN,reduceIte,Nat.reduceAdd,x138,hm,MDS,e1]
theorem ratSign_q {B:Base}(hB:Std B){c:List PL}{x:Rat}(hc:IsQ c x):Ret B 132 [.agg c] (.one (.int .i64 (sgn x.num))):=by
 obtain⟨n1,m1,n2,m2,rfl,hc1,hc2⟩:=hc
 have h1:=sign_ret hB hc1
 refine Ret.of (hB.tab _ _ rfl) ((h1.evt.and hB.evt).mono fun E K ⟨e1,hm⟩=> ?_)
 simp(decide:=true)only[EVS,EVN,reduceIte,Nat.reduceAdd,x132,hm,MDS,e1]
end Go.Proofs.YtefpgecinlekpaaGreat
namespace Go.Num
theorem UW (n:Int){d:Nat}(hd:d≠0):(mkRat n d).num.natAbs ∣ n.natAbs:=by
 rw[Rat.num_mkRat,if_neg hd,Int.natAbs_ediv_of_dvd (Int.ofNat_dvd_left.2 (Nat.gcd_dvd_right ..)),ZV]
 exact Nat.div_dvd_of_dvd (Nat.gcd_dvd_right ..)
theorem UX (n:Int){d:Nat}(hd:d≠0):(mkRat n d).den ∣ d:=by
 rw[Rat.den_mkRat,if_neg hd]
 exact Nat.div_dvd_of_dvd (Nat.gcd_dvd_left ..)
theorem mul_cross (x y:Rat):(x*y).num=(mkRat x.num y.den).num*(mkRat y.num x.den).num/\(x*y).den=(mkRat x.num y.den).den*(mkRat y.num x.den).den:=by
 have e:x*y=mkRat x.num y.den*mkRat y.num x.den:=by rw[Rat.mkRat_mul_mkRat,Rat.mul_def',ZE]
 have a1:=UW x.num y.den_nz
 have a2:=UX x.num y.den_nz
 have a3:=UW y.num x.den_nz
 have a4:=UX y.num x.den_nz
 have b1:=(mkRat x.num y.den).reduced
 have b2:=(mkRat y.num x.den).reduced
 rw[e]
 generalize mkRat x.num y.den=l at *
 generalize mkRat y.num x.den=r at *
 have c1:Nat.Coprime l.num.natAbs r.den:=Nat.Coprime.coprime_dvd_left a1 (Nat.Coprime.coprime_dvd_right a4 x.reduced)
 have c2:Nat.Coprime r.num.natAbs l.den:=Nat.Coprime.coprime_dvd_left a3 (Nat.Coprime.coprime_dvd_right a2 y.reduced)
 have h:Nat.gcd (l.num*r.num).natAbs (l.den*r.den)=1:=by
  rw[Yi]
  exact Nat.Coprime.mul_left (Nat.Coprime.mul_right b1 c1) (Nat.Coprime.mul_right c2 b2)
 rw[Rat.num_mul,Rat.den_mul,h]
 simp
end Go.Num
namespace Go.Proofs.YtefpgecinlekpaaGreat
open Go.Ev Go.Num
theorem sm_of_dvd {x:Nat}{y:Nat}(h:x ∣ y)(hy:0<y){a:Nat}(h2:(Xc y).length<a):(Xc x).length<a:=Z5 (Xs (Nat.le_of_dvd hy h)) h2
theorem sm_of_dvd0 {x:Nat}{y:Nat}(h:x ∣ y){a:Nat}(h2:(Xc y).length<a)(h3:y=0->x=0):(Xc x).length<a:=by
 rcases Z0 y with h0|h0
 ·rw[h3 h0];rw[h0]at h2;exact h2
 ·exact sm_of_dvd h h0 h2
theorem mkRat_zero_num {n:Int}{d:Nat}(h:n.natAbs=0):(mkRat n d).num.natAbs=0:=by
 have :n=0:=by omega
 rw[this];simp
theorem ratMul_q {B:Base}(hB:Std B){c d:List PL}{x y:Rat}(hc:IsQ c x)(hd:IsQ d y)(hx:Sq x)(hy:Sq y):∃e,Ret B 90 [.agg c,.agg d] (.agg e)/\IsQ e (x*y):=by
 obtain⟨n1,m1,n2,m2,rfl,hc1,hc2⟩:=hc
 obtain⟨n3,m3,n4,m4,rfl,hd1,hd2⟩:=hd
 obtain⟨l,h1,hl⟩:=lowest_ret hB hc1 hd2 hx.num hy.den (Nat.pos_of_ne_zero y.den_nz)
 obtain⟨r,h2,hr⟩:=lowest_ret hB hd1 hc2 hy.num hx.den (Nat.pos_of_ne_zero x.den_nz)
 obtain⟨e1,e2⟩:=mul_cross x y
 have a1:=UW x.num y.den_nz
 have a2:=UX x.num y.den_nz
 have a3:=UW y.num x.den_nz
 have a4:=UX y.num x.den_nz
 have s1:Sm (mkRat x.num y.den).num:=by unfold Sm;have:=sm_of_dvd0 a1 hx.1 (fun h=>mkRat_zero_num h);omega
 have s2:Sm ((mkRat x.num y.den).den:Int):=by unfold Sm;rw[ZV];have:=sm_of_dvd a2 (Nat.pos_of_ne_zero y.den_nz) hy.2;omega
 have s3:Sm (mkRat y.num x.den).num:=by unfold Sm;have:=sm_of_dvd0 a3 hy.1 (fun h=>mkRat_zero_num h);omega
 have s4:Sm ((mkRat y.num x.den).den:Int):=by unfold Sm;rw[ZV];have:=sm_of_dvd a4 (Nat.pos_of_ne_zero x.den_nz) hx.2;omega
 obtain⟨l1,l2,l3,l4,rfl,hl1,hl2⟩:=hl
 obtain⟨r1,r2,r3,r4,rfl,hr1,hr2⟩:=hr
 obtain⟨p,h3,hp⟩:=U5 hB hl1 hr1 s1 s3
 obtain⟨q,h4,hq⟩:=U5 hB hl2 hr2 s2 s4
 rw[<-e1]at hp
 rw[<-Int.natCast_mul,<-e2]at hq
 obtain⟨p1,p2,ep⟩:=hp.len
 obtain⟨q1,q2,eq⟩:=hq.len
 subst ep eq
 refine⟨_,Ret.of (hB.tab _ _ rfl) ((h1.evt.and (h2.evt.and (h3.evt.and (h4.evt.and hB.evt)))).mono fun E K ⟨e1,e2,e3,e4,hm⟩=> ?_),⟨_,_,_,_,rfl,hp,hq⟩⟩
 obtain⟨cE,lK,oD,oS,oR,dS,dD,k1,k2,k3,k4,k5,k6,k7,hLo,R⟩:=EVR
 cases a1:p2.scalar<;>cases a2:q2.scalar<;>
  simp(decide:=true)only[EVQ,R,EVN,reduceIte,Nat.reduceAdd,x90,hm,MDS,e1,e2,e3,e4,a1,a2]
theorem inv_pos {x:Rat}(h:0<x.num):(x⁻¹).num=x.den/\(x⁻¹).den=x.num.natAbs:=by
 rw[Rat.num_inv,Rat.den_inv,if_neg (by omega),Int.sign_eq_one_of_pos h,Int.one_mul];exact⟨rfl,rfl⟩
theorem inv_neg {x:Rat}(h:x.num<0):(x⁻¹).num= -(x.den:Int)/\(x⁻¹).den=x.num.natAbs:=by
 rw[Rat.num_inv,Rat.den_inv,if_neg (by omega),Int.sign_eq_neg_one_of_neg h,Int.neg_mul,Int.one_mul];exact⟨rfl,rfl⟩
theorem Sq.inv {x:Rat}(h:Sq x):Sq x⁻¹:=by
 rcases Int.lt_trichotomy x.num 0 with h1|h1|h1
 ·obtain⟨a,b⟩:=inv_neg h1
  unfold Sq;rw[a,b,Int.natAbs_neg,ZV];exact⟨h.2,h.1⟩
 ·have :x=0:=Rat.num_eq_zero.1 h1
  subst this;rw[Rat.inv_zero];exact h
 ·obtain⟨a,b⟩:=inv_pos h1
  unfold Sq;rw[a,b,ZV];exact⟨h.2,h.1⟩
theorem ratInv_q {B:Base}(hB:Std B){c:List PL}{x:Rat}(hc:IsQ c x)(hx:Sq x)(h0:x≠0):∃e,Ret B 136 [.agg c] (.tup [.agg e,.one (.int .i64 (.ofNat 0))])/\IsQ e x⁻¹:=by
 obtain⟨n1,m1,n2,m2,rfl,hc1,hc2⟩:=hc
 have hs:=sign_ret hB hc1
 have hn0:x.num≠0:=fun h=>h0 (Rat.num_eq_zero.1 h)
 rcases Int.lt_or_lt_of_ne hn0 with h1|h1
 ·obtain⟨a,b⟩:=inv_neg h1
  obtain⟨p,p1,p2⟩:=neg_ret hB hc2 hx.den
  obtain⟨q,q1,q2⟩:=neg_ret hB hc1 hx.num
  rw[<-a]at p2
  rw[show -x.num=((x⁻¹).den:Int)by rw[b];omega]at q2
  obtain⟨z1,z2,ep⟩:=p2.len
  obtain⟨z3,z4,eq⟩:=q2.len
  subst ep eq
  have es:sgn x.num=.negSucc 0:=by unfold sgn;rw[if_neg hn0,if_pos h1]
  rw[es]at hs
  refine⟨_,Ret.of (hB.tab _ _ rfl) ((hs.evt.and (p1.evt.and (q1.evt.and hB.evt))).mono fun E K ⟨e1,e2,e3,hm⟩=> ?_),⟨_,_,_,_,rfl,p2,q2⟩⟩
  obtain⟨cE,lK,oD,oS,oR,dS,dD,k1,k2,k3,k4,k5,k6,k7,hLo,R⟩:=EVR
  simp(decide:=true)only[EVQ,R,EVN,reduceIte,Nat.reduceAdd,x136,hm,MDS,e1,e2,e3]
 ·obtain⟨a,b⟩:=inv_pos h1
  have es:sgn x.num=.ofNat 1:=by unfold sgn;rw[if_neg hn0,if_neg (by omega)]
  rw[es]at hs
  refine⟨[.bool n2,m2,.bool n1,m1],Ret.of (hB.tab _ _ rfl) ((hs.evt.and hB.evt).mono fun E K ⟨e1,hm⟩=> ?_),⟨_,_,_,_,rfl,by rw[a];exact hc2,by rw[b,show((x.num.natAbs:Nat):Int)=x.num by omega];exact hc1⟩⟩
  obtain⟨cE,lK,oD,oS,oR,dS,dD,k1,k2,k3,k4,k5,k6,k7,hLo,R⟩:=EVR
  simp(decide:=true)only[EVQ,R,EVN,reduceIte,Nat.reduceAdd,x136,hm,MDS,e1]
theorem ratDiv_q {B:Base}(hB:Std B){c d:List PL}{x y:Rat}(hc:IsQ c x)(hd:IsQ d y)(hx:Sq x)(hy:Sq y)(h0:y≠0):∃e,Ret B 104 [.agg c,.agg d] (.tup [.agg e,.one (.int .i64 (.ofNat 0))])/\IsQ e (x / y):=by
 obtain⟨v,v1,v2⟩:=ratInv_q hB hd hy h0
 obtain⟨w,w1,w2⟩:=ratMul_q hB hc v2 hx hy.inv
 rw[<-Rat.div_def]at w2
 have w3:=w2
 obtain⟨n1,m1,n2,m2,rfl,hc1,hc2⟩:=hc
 obtain⟨n3,m3,n4,m4,rfl,hd1,hd2⟩:=hd
 obtain⟨z1,z2,z3,z4,rfl,-,-⟩:=v2
 obtain⟨z5,z6,z7,z8,rfl,-,-⟩:=w2
 refine⟨_,Ret.of (hB.tab _ _ rfl) ((v1.evt.and (w1.evt.and hB.evt)).mono fun E K ⟨e1,e2,hm⟩=> ?_),w3⟩
 obtain⟨cE,lK,oD,oS,oR,dS,dD,k1,k2,k3,k4,k5,k6,k7,hLo,R⟩:=EVR
 simp(decide:=true)only[EVQ,R,EVN,reduceIte,Nat.reduceAdd,x104,hm,MDS,e1,e2]
end Go.Proofs.YtefpgecinlekpaaGreat
