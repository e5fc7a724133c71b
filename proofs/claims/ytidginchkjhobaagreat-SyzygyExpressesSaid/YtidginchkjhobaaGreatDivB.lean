/- Package integer: one word of a quotient, in place. -/
import Derived.Test.YtidginchkjhobaaGreatDiv
import Derived.Test.YtidginchkjhobaaGreatSort
set_option maxHeartbeats 16000000
set_option maxRecDepth 100000
namespace Go.Ev
open Go.Proofs.YtidginchkjhobaaGreat
theorem Se (V p)(a:0<p):V / p*p<=V/\V<(V / p+1)*p:=by
 have h:=Yo V p;have b:=ZN V a;rw[ZT]at h;rw[ZX,Yf];omega
theorem NO (x m):x / 4294967296^m=x / 4294967296^(m+1)*4294967296+x / 4294967296^m%4294967296:=by
 rw[ZI,<-YG];have:=Yo (x / 4294967296^m) 4294967296;omega
theorem Su {x n}(h:x<4294967296^(n+1)):x / 4294967296^n<4294967296:=Yc (by rw[ZI]at h;exact h)
theorem Rb (n):0<4294967296^n:=Yr (by decide)
theorem nS {V m}(h:vp V (m+2)):4294967296<=2*(V / 4294967296^(m+1)):=by
 obtain⟨a,b⟩:=h;obtain⟨-,c⟩:=Se V _ (Rb (m+1));rw[show m+2=(m+1)+1 from rfl,ZI]at a;generalize V / 4294967296^(m+1)=v at *;generalize 4294967296^(m+1)=p at *;rcases Z8 (2*v) 4294967296 with h5|h5
 ·exfalso;have :(v+1)*2<=4294967296:=by omega
  have:=Zm p this;rw[Nat.mul_right_comm]at this;rw[ZT p]at a;omega
 ·exact h5
theorem CF {U V m}(b:U<V*4294967296):U / 4294967296^(m+1)<V / 4294967296^(m+1)*4294967296+4294967296:=by
 obtain⟨-,c⟩:=Se V _ (Rb (m+1));apply Yc;have a:V*4294967296<(V / 4294967296^(m+1)+1)*4294967296^(m+1)*4294967296:=by omega
 generalize V / 4294967296^(m+1)=v at *;generalize 4294967296^(m+1)=p at *;have :(v+1)*p*4294967296=p*(v*4294967296+4294967296):=by rw[ZT (v+1) p,Yn,ZX,Yf]
 rw[<-this];exact Yy b a
theorem gg {U V m q}(k:vp V (m+2))(o:U<V*4294967296)(l:vt (V / 4294967296^(m+1)) (V / 4294967296^m%4294967296) (U / 4294967296^(m+1)) (U / 4294967296^m%4294967296) q):U / V<=q/\q<=U / V+1:=by
 obtain⟨n,c,a⟩:=l;rw[<-NO,<-NO]at c a;obtain⟨d,e⟩:=Se V _ (Rb m);obtain⟨f,g⟩:=Se U _ (Rb m);have h:=k.1;rw[ZI,ZI]at h;obtain⟨D,b⟩:∃D,D=4294967295:=⟨_,rfl⟩;have i:D*4294967296^m<=V:=by
  generalize 4294967296^m=p at *;subst b;omega
 have j:U<V*(D+1):=by subst b;omega
 rw[<-b]at a;exact xe (Rb m) d e f g i (by omega) j c a
theorem JS {U V n q Y c b}(a:0<V)(k:V<4294967296^n)(h:Y+q*V=U%4294967296^n+(c+b)*4294967296^n)(l:Y<4294967296^n)(f:q=U / V):U / 4294967296^n=c+b/\Y=U%V:=by
 have d:=Yo U V;have g:=ZN U a;have i:=Yo U (4294967296^n);have j:=ZN U (Rb n);rw[<-f,ZT]at d;generalize 4294967296^n=p at *;generalize U / p=x at *;generalize U%p=y at *;generalize U%V=z at *;generalize q*V=w at *;have e:Y+p*x=z+(c+b)*p:=by omega
 rw[ZT p]at e;have :x=c+b:=by
  rcases Nat.lt_trichotomy x (c+b)with hx|hx|hx
  ·have:=Zm p (show x+1<=c+b from hx);rw[ZX]at this;omega
  ·exact hx
  ·have:=Zm p (show c+b+1<=x from hx);rw[ZX]at this;omega
 subst this;exact⟨rfl,by omega⟩
theorem EY {U V n q Y c b}(a:0<V)(k:V<4294967296^n)(h:Y+q*V=U%4294967296^n+(c+b)*4294967296^n)(l:Y<4294967296^n)(f:q=U / V+1):c+b=U / 4294967296^n+1/\Y+V=U%V+4294967296^n:=by
 have d:=Yo U V;have g:=ZN U a;have i:=Yo U (4294967296^n);have j:=ZN U (Rb n);rw[f,ZX,Yf]at h;rw[ZT]at d;generalize 4294967296^n=p at *;generalize U / p=x at *;generalize U%p=y at *;generalize U%V=z at *;generalize U / V*V=w at *;have e:Y+V+p*x=z+(c+b)*p:=by omega
 rw[ZT p]at e;have :c+b=x+1:=by
  rcases Nat.lt_trichotomy (c+b) (x+1)with hx|hx|hx
  ·have:=Zm p (show c+b<=x by omega);omega
  ·exact hx
  ·have:=Zm p (show x+2<=c+b by omega);rw[ZX]at this;omega
 rw[this]at e⊢;rw[ZX]at e;exact⟨rfl,by omega⟩
theorem jn {n X}(h:X<4294967296^n):dg (n+1) X=dg n X++[0]:=by
 rw[qJ,YI h]
theorem Jm {B}(hB:Std B){H}{iu iv j m tu tv}{a f Vw}{U V}(T:iu≠iv)(e:a.length=j)(hm:m<2000000000000)(hN:vp V (m+2))(hU:U<V*4294967296)
  (hV:∀i,i<m+2->Vw[i]? =some (V / 4294967296^i%4294967296)) (Y:H[iu]? =some ⟨false,0,1,Wn (a++(dg (m+3) U++f)),false,tu⟩) (hv:H[iv]? =some ⟨false,0,1,Wn Vw,false,tv⟩):
  Uu B 192 [.one (.own iu 0 j (m+3)),.one (.own iv 0 0 (m+2))] H (La4 (.int .u32 (.ofNat (U / V)))) (H.set iu ⟨false,0,1,Wn (a++(dg (m+3) (U%V)++f)),false,tu⟩):=by
 refine Uu.of (hB.Wa _ _ rfl) (((XT.ge (m+5)).and hB.Xk).mono fun E K ⟨hK,f9⟩=> ?_);have L:0<V:=by
  rcases Yk V with h|h
  ·subst h;omega
  ·exact h
 have k:=hN.2;have S:U<4294967296^(m+3):=by
  have:=Yl k (show 0<4294967296 by decide);rw[<-ZI]at this;exact Yy hU this
 obtain⟨v1,v⟩:∃v1,v1=V / 4294967296^(m+1):=⟨_,rfl⟩;have e0:v1<4294967296:=by rw[v];exact Su k
 obtain⟨v2,F⟩:∃v2,v2=V / 4294967296^m%4294967296:=⟨_,rfl⟩;have e8:v2<4294967296:=by rw[F];exact ZN _ (by decide)
 obtain⟨z,l⟩:∃z,z=U / 4294967296^(m+2):=⟨_,rfl⟩;have a0:z<4294967296:=by rw[l];exact Su S
 obtain⟨Z,C⟩:∃Z,Z=U / 4294967296^(m+1)%4294967296:=⟨_,rfl⟩;have d8:Z<4294967296:=by rw[C];exact ZN _ (by decide)
 obtain⟨u2,D⟩:∃u2,u2=U / 4294967296^m%4294967296:=⟨_,rfl⟩;have d9:u2<4294967296:=by rw[D];exact ZN _ (by decide)
 obtain⟨d,u⟩:∃d,d=z*4294967296+Z:=⟨_,rfl⟩;have g:d=U / 4294967296^(m+1):=by rw[u,l,C];exact(NO U (m+1)).symm
 have s:=nS hN;have n:=CF (m:=m) hU;rw[<-v]at s n;rw[<-g]at n;have O:Vw[m+1]? =some v1:=by rw[hV (m+1) (by omega),v,Zi (Su k)]
 have d0:Vw[m]? =some v2:=by rw[hV m (by omega),F]
 have c0:(a++(dg (m+3) U++f))[j+(m+2)]? =some z:=by rw[qX e (by omega),l,Zi (Su S)]
 have a9:(a++(dg (m+3) U++f))[j+(m+1)]? =some Z:=by rw[qX e (by omega),C]
 have b0:(a++(dg (m+3) U++f))[j+m]? =some u2:=by rw[qX e (by omega),D]
 obtain⟨w,rfl⟩:∃w,v1=w+1:=⟨v1-1,by omega⟩;have M:=Yo d (w+1);have d3:=ZN d (show 0<w+1 by omega);obtain⟨I,J⟩:∃I,I=d / (w+1):=⟨_,rfl⟩;obtain⟨r0,A⟩:∃r0,r0=d%(w+1):=⟨_,rfl⟩;rw[<-J,<-A]at M;rw[<-A]at d3;have W:I<=4294967298:=by
  rcases Z8 4294967298 I with h|h
  ·exfalso;have:=ZE (w+1) (show 4294967299<=I from h);omega
  ·exact h
 have t:d*4294967296+u2<(I+1)*((w+1)*4294967296+v2):=by
  rw[Nat.mul_add,<-Yn];have h1:d+1<=(I+1)*(w+1):=by rw[ZX,Yf,ZT I];omega
  have h2:=Zm 4294967296 h1;have h3:=Zw ((I+1)*v2);omega
 obtain⟨T1,q,a1,⟨a2,a3,a4,a5⟩,a6⟩:=xg (E:=E) (K:=K) Y hv (by omega) O d0 b0 e0 e8 d9 n 2 I r0 (by rw[ZT];exact M) (by omega) W (by omega) (.inr t) K (by omega);have bq:q<4294967296:=a6.1;rw[v,F,g,D]at a6;obtain⟨g0,g1⟩:=gg hN hU a6;have f0:H[iu]? =some ⟨false,0,1,Wn (a++[]++(dg (m+2+1) (U / 4294967296^0)++f)),false,tu⟩:=by
  rw[ZJ,Nat.pow_zero,Nat.div_one];exact Y
 obtain⟨T2,N,c,b,b1,⟨b2,b3,b4,b5,b6,b7⟩,b8,b9,f7,f8,Q⟩:=sh (E:=E) (K:=K) T e (show m+2<10000000000000 by omega) bq hV (m+2) 0 K H [] 0 0 (by omega) (by omega) f0 hv rfl WR.nil (by decide) (by decide) (by simp[val,Nat.mod_one]);rw[Zi k]at Q;have hY:val N<4294967296^(m+2):=by have:=Vd b9;rwa[b8]at this
 have a7:U / 4294967296^(m+2)%4294967296=z:=by rw[l,Zi (Su S)]
 have e9:dg 1 (U / 4294967296^(m+2))++f=z::f:=by
  show U / 4294967296^(m+2)%4294967296::f=_;rw[a7]
 rw[e9]at b1;have d4:(a++N).length=j+(m+2):=by rw[Zn,e,b8]
 have s1:Xd .i64 (.ofNat (m+2)-.ofNat 1)=.ofNat (m+1):=by rw[X9 (by omega) (by omega)];rfl
 have n1:m+1<m+2:=by omega
 have n2:m+1<m+3:=by omega
 have n3:m+2<m+3:=by omega
 have w1:=X7 c0;have w2:=X7 a9;have w3:=X7 O;have f1:z%18446744073709551616=z:=Zi (by omega);have f2:Z%18446744073709551616=Z:=Zi (by omega);have f3:(w+1)%18446744073709551616=w+1:=Zi (by omega);have o1:=jc a0;have o2:=wz a0 d8;rw[<-u]at o2;have o3:U5 .u64 (.ofNat d) (.ofNat (w+1))=some (.p (La2 I)):=by
  show some (DL.p (.int .u64 (Xd .u64 (.ofNat (d / (w+1))))))=_;rw[<-J,wrap_u64,Zi (by omega)]
 have o4:TN .u64 (.ofNat d) (.ofNat (w+1))=some (.p (La2 r0)):=by rw[A];rfl
 have w4:=X7 (ab (a++N) f z d4);obtain⟨d1,k1,p1⟩:∃d1,Xd .u64 (.ofNat z-.ofNat c)=.ofNat d1/\d1=(z+(18446744073709551616-c))%18446744073709551616:=⟨_,NQ (by omega),rfl⟩;obtain⟨o,k2,p2⟩:∃o,Xd .u64 (.ofNat d1-.ofNat b)=.ofNat o/\o=(d1+(18446744073709551616-b))%18446744073709551616:=⟨_,NQ (by omega),rfl⟩;have d7:(a++N++z::f).set (j+(m+2)) (o%4294967296)=a++N++[o%4294967296]++f:=N9 _ _ _ _ d4;rcases Z8 q (U / V+1)with hcase|hcase
 ·
  have y:q=U / V:=by omega
  obtain⟨r1,r2⟩:=JS L k Q hY y;rw[<-l]at r1;have r:o=0:=by omega
  have G:a++N++[o%4294967296]++f=a++(dg (m+3) (U%V)++f):=by
   rw[r,jn (Yy (ZN U L) k),<-r2,<-Sd b9 b8 rfl];simp
  have hz:(o / 9223372036854775808=0)=True:=by rw[r];simp
  have X:q%4294967296=U / V:=by rw[Zi bq];exact y
  clear p1 p2 r t M n s u g v F l C D J A r1 r2 W;obtain⟨cE,lK,oD,oS,oR,dS,dD,e1,e2,e3,e4,e5,e6,e7,hL,R⟩:=SZ;rw[<-e2]at a1 b1;simp only[TP,R,Vv,Xs,reduceIte,Nat.reduceEqDiff,Nat.reduceLeDiff,Nat.reduceAdd,Zw,x192,Y,hv,s1,n1,n2,n3,w1,w2,w3,w4,f1,f2,f3,o1,o2,o3,o4,a1,a2,a3,a4,a5,b1,b2,b3,b4,b5,b6,b7,k1,k2,P8 Y,List.set_set,W3,d7,G,hz,X]
 ·
  have y:q=U / V+1:=by omega
  obtain⟨r1,r2⟩:=EY L k Q hY y;rw[<-l]at r1;have r:o=18446744073709551615:=by omega
  have hz:(o / 9223372036854775808=0)=False:=by rw[r];simp
  have f4:(H.set iu ⟨false,0,1,Wn (a++N++[o%4294967296]++f),false,tu⟩)[iu]? =some ⟨false,0,1,Wn (a++[]++(N.drop 0++(o%4294967296::f))),false,tu⟩:=by
   rw[P8 Y];simp
  obtain⟨T3,zl,c3,c1,⟨c2,c4,c5,c6⟩,c7,c8,c9,c10⟩:=sT (E:=E) (K:=K) (q:=q) T e (show m+2<10000000000000 by omega) b8 b9 hV (m+2) 0 K (H.set iu ⟨false,0,1,Wn (a++N++[o%4294967296]++f),false,tu⟩) [] 0 (by omega) (by omega) f4 (ea T hv) rfl WR.nil (by decide) (by simp[val,Nat.mod_one]);rw[Zi k,r2]at c10;have hZ:val zl<4294967296^(m+2):=by have:=Vd c8;rwa[c7]at this
  have hR:=ZN U L;have a8:c3=1:=by
   rcases Z8 c3 1 with h|h
   ·have h0:c3=0:=by omega
    rw[h0,Nat.zero_mul,ZU]at c10;rw[c10]at hZ;exact absurd hZ (Nat.not_lt.2 (Nat.le_add_left ..))
   ·omega
  have f5:val zl=U%V:=by rw[a8,Yf]at c10;exact Nat.add_right_cancel c10
  rw[List.set_set]at c1;have P:(a++zl).length=j+(m+2):=by rw[Zn,e,c7]
  have w5:=X7 (ab (a++zl) f (o%4294967296) P);have f6:∀x,(a++zl++o%4294967296::f).set (j+(m+2)) x=a++zl++[x]++f:=fun x=>N9 _ _ _ _ P
  have d6:(o%4294967296+c3%4294967296)%4294967296=0:=by rw[r,a8]
  have G:a++zl++[0]++f=a++(dg (m+3) (U%V)++f):=by
   rw[jn (Yy hR k),<-f5,<-Sd c8 c7 rfl];simp
  have d5:U / V<4294967296:=by rw[y]at bq;exact Nat.lt_of_succ_lt bq
  have k3:Xd .u64 (.ofNat q-.ofNat 1)=.ofNat (U / V):=by
   rw[y,iP (Nat.le_add_left ..),wrap_u64,Ys,Zi (Yy d5 (by decide))]
  have X:U / V%4294967296=U / V:=Zi d5;clear p1 p2 r t M n s u g v F l C D J A r1 r2 W;obtain⟨cE,lK,oD,oS,oR,dS,dD,e1,e2,e3,e4,e5,e6,e7,hL,R⟩:=SZ;rw[<-e2]at a1 b1 c1;simp only[TP,R,Vv,Xs,reduceIte,Nat.reduceEqDiff,Nat.reduceLeDiff,Nat.reduceAdd,Zw,x192,Y,hv,s1,n1,n2,n3,w1,w2,w3,w4,f1,f2,f3,o1,o2,o3,o4,a1,a2,a3,a4,a5,b1,b2,b3,b4,b5,b6,b7,k1,k2,P8 Y,List.set_set,W3,d7,hz,c1,c2,c4,c5,c6,w5,f6,d6,G,k3,X]
def tH:Nat->P'->Bool
 |_,[]=>true
 |i,b::bs=>Nat.ble 1 b&&Nat.ble b 8&&Nat.ble (2^(b-1)) i&&Nat.blt i (2^b)&&tH (i+1) bs
theorem nL:∀{a} {i k},tH i a=true->k<a.length->∃b,a[k]? =some b/\1<=b/\b<=8/\2^(b-1)<=i+k/\i+k<2^b
 |[],_,_,_,hk=>by simp at hk
 |b::a,i,0,h,_=>by
  simp only[tH,Zs,Go.Ev.zI,Go.Ev.dB,decide_eq_true_eq]at h
  grind
 |b::a,i,k+1,h,hk=>by
  simp only[tH,Zs]at h;obtain⟨c,d,e⟩:=nL (k:=k) h.2 (by simpa using hk)
  grind
theorem ai {i}(h0:0<i)(h:i<256):∃b,(0::1::2::2::3::3::3::3::4::4::4::4::4::4::4::4::5::5::5::5::5::5::5::5::5::5::5::5::5::5::5::5::6::6::6::6::6::6::6::6::6::6::6::6::6::6::6::6::6::6::6::6::6::6::6::6::6::6::6::6::6::6::6::6::7::7::7::7::7::7::7::7::7::7::7::7::7::7::7::7::7::7::7::7::7::7::7::7::7::7::7::7::7::7::7::7::7::7::7::7::7::7::7::7::7::7::7::7::7::7::7::7::7::7::7::7::7::7::7::7::7::7::7::7::7::7::7::7::8::8::8::8::8::8::8::8::8::8::8::8::8::8::8::8::8::8::8::8::8::8::8::8::8::8::8::8::8::8::8::8::8::8::8::8::8::8::8::8::8::8::8::8::8::8::8::8::8::8::8::8::8::8::8::8::8::8::8::8::8::8::8::8::8::8::8::8::8::8::8::8::8::8::8::8::8::8::8::8::8::8::8::8::8::8::8::8::8::8::8::8::8::8::8::8::8::8::8::8::8::8::8::8::8::8::8::8::8::8::8::8::8::8::8::8::8::8::8::8::8::8::8::8::8::8::8::8::[])[i]? =some b/\1<=b/\b<=8/\2^(b-1)<=i/\i<2^b:=by
 obtain⟨k,rfl⟩:∃k,i=k+1:=⟨i-1,by omega⟩;generalize a:(1::2::2::3::3::3::3::4::4::4::4::4::4::4::4::5::5::5::5::5::5::5::5::5::5::5::5::5::5::5::5::6::6::6::6::6::6::6::6::6::6::6::6::6::6::6::6::6::6::6::6::6::6::6::6::6::6::6::6::6::6::6::6::7::7::7::7::7::7::7::7::7::7::7::7::7::7::7::7::7::7::7::7::7::7::7::7::7::7::7::7::7::7::7::7::7::7::7::7::7::7::7::7::7::7::7::7::7::7::7::7::7::7::7::7::7::7::7::7::7::7::7::7::7::7::7::7::8::8::8::8::8::8::8::8::8::8::8::8::8::8::8::8::8::8::8::8::8::8::8::8::8::8::8::8::8::8::8::8::8::8::8::8::8::8::8::8::8::8::8::8::8::8::8::8::8::8::8::8::8::8::8::8::8::8::8::8::8::8::8::8::8::8::8::8::8::8::8::8::8::8::8::8::8::8::8::8::8::8::8::8::8::8::8::8::8::8::8::8::8::8::8::8::8::8::8::8::8::8::8::8::8::8::8::8::8::8::8::8::8::8::8::8::8::8::8::8::8::8::8::8::8::8::8::8::[])=L;have l:L.length=255:=by subst a;rfl
 have c:tH 1 L=true:=by subst a;rfl
 obtain⟨b,d,e,f,g,j⟩:=nL (k:=k) c (by omega)
 grind
theorem wQ {w k b}(g:1<=b)(d:2^(b-1)<=w / 2^k)(e:w / 2^k<2^b):2^(k+b-1)<=w/\w<2^(k+b):=by
 have f:0<2^k:=Yr (by decide);obtain⟨a,c⟩:=Se w _ f;constructor
 ·rw[show k+b-1=(b-1)+k by omega,Ye];exact Zy (Zm _ d) a
 ·rw[Nat.add_comm,Ye];exact ZO c (Zm _ e)
theorem Bl {B}(f:Std B){w}(h0:0<w)(I:w<4294967296):∃l,1<=l/\l<=32/\2^(l-1)<=w/\w<2^l/\Xv B 206 [.one (.int .u32 (.ofNat w))] (.one (La0 l)):=by
 have z:∀(E:Xa) C,XQ E .TV C=false:=fun _ _=>rfl
 have A:∀(E:Xa) (b:Nat) (C:X') (h:HF) (n:Nat),Wf E b .TV C h n=Uo C:=fun _ _ _ _ _=>rfl
 have G:∀a,Pc .u32 (.ofNat a) (.ofNat 16)=some (.p (.int .u32 (.ofNat (a / 65536)))):=fun _=>rfl
 have H:∀a,Pc .u32 (.ofNat a) (.ofNat 8)=some (.p (.int .u32 (.ofNat (a / 256)))):=fun _=>rfl
 by_cases y:65536<=w
 ·by_cases u:256<=w / 65536
  ·have e:w / 65536 / 256=w / 16777216:=by omega
   obtain⟨b,q,s,D,c,d⟩:=ai (i:=w / 65536 / 256) (by omega) (by omega);rw[e]at c d;obtain⟨g,j⟩:=wQ (w:=w) (k:=24) s c d;have m:Xd .i64 (.ofNat b)=.ofNat b:=wrap_i64 (by omega);have t:Xd .i64 (.ofNat (24+b))=.ofNat (24+b):=by grind [wrap_i64]
   have o:Xd .u8 (.ofNat (w / 65536 / 256))=.ofNat (w / 65536 / 256):=wrap_u8 (by omega);have v:Xd .i64 (.ofNat 24)=.ofNat 24:=rfl;have x:Xd .i64 (.ofNat 8)=.ofNat 8:=rfl;have F:Xd .i64 (.ofNat 16)=.ofNat 16:=rfl;refine⟨24+b,by omega,by omega,g,j,Xv.of (f.Wa _ _ rfl) (f.Xk.mono fun E K r=> ?_)⟩;simp only[Xo,Xs,z,A,reduceIte,Nat.reduceEqDiff,Nat.reduceLeDiff,Nat.reduceAdd,x206,y,u,G,H,eT q,m,t,o,v]
  ·obtain⟨b,q,s,D,c,d⟩:=ai (i:=w / 65536) (by omega) (by omega);obtain⟨g,j⟩:=wQ (w:=w) (k:=16) s c d;have m:Xd .i64 (.ofNat b)=.ofNat b:=wrap_i64 (by omega);have t:Xd .i64 (.ofNat (16+b))=.ofNat (16+b):=by grind [wrap_i64]
   have o:Xd .u8 (.ofNat (w / 65536))=.ofNat (w / 65536):=wrap_u8 (by omega);have v:Xd .i64 (.ofNat 24)=.ofNat 24:=rfl;have x:Xd .i64 (.ofNat 8)=.ofNat 8:=rfl;have F:Xd .i64 (.ofNat 16)=.ofNat 16:=rfl;refine⟨16+b,by omega,by omega,g,j,Xv.of (f.Wa _ _ rfl) (f.Xk.mono fun E K r=> ?_)⟩;simp only[Xo,Xs,z,A,reduceIte,Nat.reduceEqDiff,Nat.reduceLeDiff,x206,y,u,G,eT q,m,t,o]
 ·by_cases u:256<=w
  ·obtain⟨b,q,s,D,c,d⟩:=ai (i:=w / 256) (by omega) (by omega);obtain⟨g,j⟩:=wQ (w:=w) (k:=8) s c d;have m:Xd .i64 (.ofNat b)=.ofNat b:=wrap_i64 (by omega);have t:Xd .i64 (.ofNat (8+b))=.ofNat (8+b):=by grind [wrap_i64]
   have o:Xd .u8 (.ofNat (w / 256))=.ofNat (w / 256):=wrap_u8 (by omega);have v:Xd .i64 (.ofNat 24)=.ofNat 24:=rfl;have x:Xd .i64 (.ofNat 8)=.ofNat 8:=rfl;have F:Xd .i64 (.ofNat 16)=.ofNat 16:=rfl;refine⟨8+b,by omega,by omega,g,j,Xv.of (f.Wa _ _ rfl) (f.Xk.mono fun E K r=> ?_)⟩;simp only[Xo,Xs,z,A,reduceIte,Nat.reduceEqDiff,Nat.reduceLeDiff,x206,y,u,H,eT q,m,t,o,x]
  ·obtain⟨b,q,s,D,c,d⟩:=ai (i:=w) (by omega) (by omega);have g:2^(b-1)<=w:=c;have j:w<2^b:=d;have m:Xd .i64 (.ofNat b)=.ofNat b:=wrap_i64 (by omega);have t:Xd .i64 (.ofNat (0+b))=.ofNat (b):=by grind
   have o:Xd .u8 (.ofNat (w))=.ofNat (w):=wrap_u8 (by omega);have v:Xd .i64 (.ofNat 24)=.ofNat 24:=rfl;have x:Xd .i64 (.ofNat 8)=.ofNat 8:=rfl;have F:Xd .i64 (.ofNat 16)=.ofNat 16:=rfl;refine⟨b,by omega,by omega,g,j,Xv.of (f.Wa _ _ rfl) (f.Xk.mono fun E K r=> ?_)⟩;simp only[Xo,Xs,z,A,reduceIte,Nat.reduceEqDiff,Nat.reduceLeDiff,x206,y,u,eT q,m,o]
theorem JE {B}(a:Std B){w}(h0:0<w)(i:w<4294967296):∃l,1<=l/\l<=32/\2^(l-1)<=w/\w<2^l/\Xv B 190 [.one (.int .u32 (.ofNat w))] (.one (La0 (32-l))):=by
 obtain⟨l,e,c,f,g,h⟩:=Bl a h0 i;refine⟨l,e,c,f,g,Xv.of (a.Wa _ _ rfl) ((h.Xk.and a.Xk).mono fun E K ⟨e1,b⟩=> ?_)⟩;have d:Xd .i64 (.ofNat 32-.ofNat l)=.ofNat (32-l):=X9 c (by decide);simp only[Xo,Xs,reduceIte,Nat.reduceEqDiff,Nat.reduceLeDiff,x190,b,X3,e1,d]
theorem G9 {y n l w}(h:1<=l)(m:l<=32)(j:w=y / 4294967296^n)(f:2^(l-1)<=w)(g:w<2^l):vp (y*2^(32-l)) (n+1):=by
 obtain⟨a,b⟩:=Se y _ (Rb n);rw[<-j]at a b;have e1:2^(l-1)*2^(32-l)=2147483648:=by
  rw[<-Ye,show l-1+(32-l)=31 by omega]
 have e2:2^l*2^(32-l)=4294967296:=by
  rw[<-Ye,show l+(32-l)=32 by omega]
 have i:0<2^(32-l):=Yr (by decide);have d:2147483648<=w*2^(32-l):=by rw[<-e1];exact Zm _ f
 have e:(w+1)*2^(32-l)<=4294967296:=by rw[<-e2];exact Zm _ g
 generalize 2^(32-l)=z at *;generalize c:4294967296^n=P at *;constructor
 ·rw[ZI,c];have:=Zm z a;have k:=Zm P d
  grind
 ·rw[ZI,c];have:=Yl b i;have k:=Zm P e
  grind
theorem r9 {n y}(h:(Xe y).length=n+1):(Xe y)[n]? =some (y / 4294967296^n)/\0<y / 4294967296^n/\y / 4294967296^n<4294967296/\4294967296^n<=y:=by
 have e:Xe y=dg (n+1) y:=Sd (Xr y) h (Xn y);have a:=PT (WO y) (by omega);rw[Xn,h,Ys]at a;have b:y<4294967296^(n+1):=by grind [SN]
 have c:=Su b;refine⟨?_,Nat.div_pos a (Rb n),c,a⟩
 grind [eU]
theorem eJ {X V L N n j}(d:L=j+((n+1)+(N-j)))(b:0<V)(a:V<4294967296^n):
  dg L (X%(V*4294967296^(j+1)))=dg j (X%(V*4294967296^(j+1)))++(dg (n+1) (X%(V*4294967296^(j+1)) / 4294967296^j)++List.replicate (N-j) 0)/\
  dg L (X%(V*4294967296^j))=dg j (X%(V*4294967296^(j+1)))++(dg (n+1) (X%(V*4294967296^(j+1)) / 4294967296^j%V)++List.replicate (N-j) 0)/\
  X%(V*4294967296^(j+1)) / 4294967296^j<V*4294967296:=by
 have i:=Rb j;have g:V*4294967296^j ∣ V*4294967296^(j+1):=Nat.mul_dvd_mul_left V (by rw[ZI];exact Nat.dvd_mul_right ..);have e1:X%(V*4294967296^j)=X%(V*4294967296^(j+1))%(V*4294967296^j):=(Nat.mod_mod_of_dvd X g).symm;have h:X%(V*4294967296^(j+1))<V*4294967296^(j+1):=ZN _ (ZV b (Rb _));rw[e1];generalize X%(V*4294967296^(j+1))=Z at *;have e:Z / 4294967296^j<V*4294967296:=Yc (by simp_all [ZI,YD]);have f:Z / 4294967296^j<4294967296^(n+1):=by
  omega
 have e2:Z%(V*4294967296^j) / 4294967296^j=Z / 4294967296^j%V:=by rw[ZT V,Nat.mod_mul_right_div_self]
 have c:dg j (Z%(V*4294967296^j))=dg j Z:=zD (Nat.mod_mod_of_dvd Z (Nat.dvd_mul_left ..));refine⟨?_,?_,e⟩
 ·simp_all [Rm,YI,qI]
 ·rw[d,Rm,Rm,e2,c,YI (Yy (ZN _ b) (Yy a (Nat.pow_lt_pow_right (by decide) (Nat.lt_succ_self n)))),qI]
theorem nA {X V N j}(a:j<=N):X%(V*4294967296^(j+1)) / 4294967296^j / V::dg (N-j) (X / (V*4294967296^(j+1)))=dg (N+1-j) (X / (V*4294967296^j)):=by
 rw[show N+1-j=(N-j)+1 by omega,dg,YG,YG,ZI,<-Yn,ZT (4294967296^j) V,Nat.mod_mul_right_div_self]
theorem NR {d id XW c a l u}{h}{b}(g:h id=some b)(e:l<=u)(f:u<=a)(i:b.sz=d):WN d h (.own id XW c a) l (some u)=some (.own id XW (c+l) (u-l),[id]):=by simp_all [WN,PU]
def rF (X V L n N i:Nat):V':=[⟨false,0,1,Wn (dg L (X%(V*4294967296^i))),false,177⟩,⟨false,0,1,Wn (dg (n+1) V),false,177⟩,⟨false,0,1,Wn (List.replicate i 0++dg (N+1-i) (X / (V*4294967296^i))),false,177⟩]
theorem zB {E}{K}{X V L m N s}(M:L=N+(m+3))(O:N<2000000000000)(S:m<2000000000000)(e:E.mode=md)(P:vp V (m+2))(g:0<V)
  (n:∀j,j<N+1->E.heap 192 [.one (.own 0 0 j (m+3)),.one (.own 1 0 0 (m+2))] (rF X V L (m+2) N (j+1))=some (.one (.p (.int .u32 (.ofNat (X%(V*4294967296^(j+1)) / 4294967296^j / V)))),(rF X V L (m+2) N (j+1)).set 0 ⟨false,0,1,Wn (dg L (X%(V*4294967296^j))),false,177⟩)):
  ∀i,i<=N+1->∀k,i<k->∃c,Xb E K 0 [8,9,10,11,12,13] x178_1 k ⟨[(8,La1 (m+2)),(9,La1 s),(10,.one (.own 0 0 0 L)),(11,.one (.own 1 0 0 (m+2))),(12,.one (.own 2 0 0 (N+1))),(13,La4 (.int .i64 (pI i)))],rF X V L (m+2) N i⟩=some (.exit 0,⟨c,rF X V L (m+2) N 0⟩)/\
   Xi c 8=some (La1 (m+2))/\Xi c 9=some (La1 s)/\Xi c 10=some (.one (.own 0 0 0 L))/\Xi c 12=some (.one (.own 2 0 0 (N+1)))
 |_,_,0,h=>by omega
 |0,_,k+1,_=>by
  apply VW
  ·obtain⟨o,T,U,Y,W,r,q,e1,e2,t,u,v,w,x,d,R⟩:=SZ;rw[<-e2,d];simp only[TP,R,Xs,reduceIte,Nat.reduceEqDiff,x178_1,gR];rfl
  ·simp only[Xo,reduceIte,Nat.reduceEqDiff,and_self]
 |j+1,hj,k+1,hk=>by
  obtain⟨c,l,J⟩:=zB M O S e P g n j (by omega) k (by omega);refine⟨c,?_,J⟩;have f:=n j (by omega);obtain⟨Q,y⟩:∃Q,Q=X%(V*4294967296^(j+1)) / 4294967296^j / V:=⟨_,rfl⟩;have a:=nA (X:=X) (V:=V) (N:=N) (j:=j) (by omega);rw[<-y]at f a;have z:Xd .i64 (.ofNat (j+(m+2)))=.ofNat (j+(m+2)):=wrap_i64 (by omega);have A:Xd .i64 (.ofNat (j+(m+2)+1))=.ofNat (j+(m+2)+1):=wrap_i64 (by omega);have B:Xd .i64 (.ofNat j-.ofNat 1)=pI j:=UR (by omega);have C:WN 1 (Xj (rF X V L (m+2) N (j+1))) (.own 0 0 0 L) j (some (j+(m+2)+1))=some (.own 0 0 j (m+3),[0]):=by
   rw[NR (b:=⟨false,0,1,Wn (dg L (X%(V*4294967296^(j+1)))),false,177⟩) rfl (by omega) (by omega) rfl,Yb,show j+(m+2)+1-j=m+3 by omega]
  have F:((rF X V L (m+2) N (j+1)).set 0 ⟨false,0,1,Wn (dg L (X%(V*4294967296^j))),false,177⟩)[2]? =some ⟨false,0,1,Wn (List.replicate (j+1) 0++dg (N-j) (X / (V*4294967296^(j+1)))),false,177⟩:=by
   show some (Xx.mk false 0 1 (Wn (List.replicate (j+1) 0++dg (N+1-(j+1)) (X / (V*4294967296^(j+1))))) false 177)=_
   grind
  have G:=X7 (gZ 0 j (dg (N-j) (X / (V*4294967296^(j+1)))));have H:((rF X V L (m+2) N (j+1)).set 0 ⟨false,0,1,Wn (dg L (X%(V*4294967296^j))),false,177⟩).set 2 ⟨false,0,1,Wn (List.replicate j 0++dg (N+1-j) (X / (V*4294967296^j))),false,177⟩=rF X V L (m+2) N j:=rfl;have I:j<N+1:=by omega
  generalize rF X V L (m+2) N (j+1)=D at *;generalize (D.set 0 ⟨false,0,1,Wn (dg L (X%(V*4294967296^j))),false,177⟩)=D1 at *;generalize rF X V L (m+2) N j=D2 at *;generalize rF X V L (m+2) N 0=D3 at *;generalize dg (N-j) (X / (V*4294967296^(j+1)))=l1 at *;generalize dg (N+1-j) (X / (V*4294967296^j))=l2 at *;obtain⟨o,T,U,Y,W,r,q,e1,e2,t,u,v,w,x,d,R⟩:=SZ;rw[<-e2]at l⊢;rw[d];simp only[TP,R,Vv,Xs,reduceIte,Nat.reduceEqDiff,Nat.reduceLeDiff,Zw,x178_1,cy,e,X3,f,z,A,B,C,F,G,I,W3,NT,a,H];exact l
theorem iJ {B}(a:Std B){l}{x}(s:dM l x)(b:(Xe x).length<9223372036854775808):∃r,Xv B 175 [.one l] (.one r)/\dM r x:=by grind [rX,Te,Xr,Xn]
theorem kX {B}(a:Std B){la lb}{x y}(g:dM la x)(d:dM lb y)(hx:(Xe x).length<2000000000000)(hy:(Xe y).length<2000000000000)(Q:0<y):
  ∃q r,Xv B 178 [.one la,.one lb] (.Wd [.one q,.one r])/\dM q (x / y)/\dM r (x%y):=by
 obtain⟨ra,T,g⟩:=iJ a g (by omega);obtain⟨rb,U,d⟩:=iJ a d (by omega);have C:=gw a g d (Xr _) (Xr _) (WO _) (WO _) (by omega) (by omega);rw[Xn,Xn]at C;by_cases c:x<y
 ·obtain⟨r,A,h2⟩:=az a g (by omega);refine⟨.Xp,r,Xv.of (a.Wa _ _ rfl) ((T.Xk.and (U.Xk.and (C.Xk.and (A.Xk.and a.Xk)))).mono fun E K ⟨e1,e2,t,u,b⟩=> ?_),?_,?_⟩
  ·simp only[Xo,Xs,reduceIte,Nat.reduceEqDiff,Nat.reduceLeDiff,x178,b,X3,e1,e2,t,u,RH,c]
  ·grind [YI,dM.zero]
  grind [Zi]
 by_cases A:(Xe y).length=1
 ·obtain⟨k1,S⟩:=Sg.1 A;have hi:(Xe y)[0]? =some y:=by grind [OO]
  have hd:=Fm a g (Xr _) (by omega) k1 S;rw[Xn]at hd;have a5:=ZN x Q;have hw:=dO a (m:=x%y) (by omega);have G:y%18446744073709551616=y:=Zi (by omega);refine⟨_,_,Xv.of (a.Wa _ _ rfl) ((T.Xk.and (U.Xk.and (C.Xk.and (hd.Xk.and (hw.Xk.and a.Xk))))).mono fun E K ⟨e1,e2,t,u,D,b⟩=> ?_),.Xl,.Xl⟩;simp only[Xo,Xs,reduceIte,Nat.reduceEqDiff,Nat.reduceLeDiff,x178,b,X3,e1,e2,t,u,D,RH,c,d.len,A,d.idx hi,G]
 have a8:2<=(Xe y).length:=by
  grind [Xe]
 obtain⟨m,J⟩:∃m,(Xe y).length=m+2:=⟨(Xe y).length-2,by omega⟩;obtain⟨t1,t2,t3,t4⟩:=r9 (n:=m+1) J;obtain⟨w,ew⟩:∃w,w=y / 4294967296^(m+1):=⟨_,rfl⟩;rw[<-ew]at t1 t2 t3;obtain⟨l,l1,l2,l3,l4,l5⟩:=JE a t2 t3;obtain⟨s,es⟩:∃s,s=32-l:=⟨_,rfl⟩;have P:s<32:=by omega
 have o:=G9 l1 l2 ew l3 l4;rw[<-es]at o l5;have a7:=XR (Nat.le_of_not_lt c);obtain⟨N,F⟩:∃N,(Xe x).length=N+(m+2):=⟨(Xe x).length-(m+2),by omega⟩;have M:0<2^s:=Yr (by decide);obtain⟨V,eV⟩:∃V,V=y*2^s:=⟨_,rfl⟩;obtain⟨X,eX⟩:∃X,X=x*2^s:=⟨_,rfl⟩;have e:0<V:=by simp_all [ZV]
 rw[<-eV]at o;have f:=o.2;have a0:V<4294967296^(m+2+1):=Yy f (Nat.pow_lt_pow_right (by decide) (Nat.lt_succ_self _));have v:X<V*4294967296^(N+1):=by
  have W:=SN x;rw[F]at W;have a2:2^s<=2^31:=Z5 (by decide) (by omega);have a3:X<4294967296^(N+(m+2))*2147483648:=by
   rw[eX];exact ZO (Yl W M) (ZE _ a2)
  have a4:=Zm (4294967296^(N+1)) o.1;rw[<-Ye,show m+2+(N+1)=(N+(m+2))+1 by omega,ZI,Yn]at a4;omega
 have z:X / V=x / y:=by grind [Nat.mul_div_mul_right]
 have O:X%V / 2^s=x%y:=by grind [Nat.mul_mod_mul_right,Nat.mul_div_cancel]
 have I:X%V<4294967296^(m+2):=Yy (ZN _ e) f;have Y:=yq a g (Xr _) (by omega) P [];rw[Xn,<-eX,F,Zr,ZB]at Y;have Z:=yq a d (Xr _) (by omega) P [⟨false,0,1,Wn (dg (N+(m+2)+1) X),false,177⟩];rw[Xn,<-eV,J,ZK,ZW]at Z;have c3:XT B fun E _=>∀j,j<N+1->E.heap 192 [.one (.own 0 0 j (m+3)),.one (.own 1 0 0 (m+2))] (rF X V (N+(m+3)) (m+2) N (j+1))=some (.one (.p (.int .u32 (.ofNat (X%(V*4294967296^(j+1)) / 4294967296^j / V)))),(rF X V (N+(m+3)) (m+2) N (j+1)).set 0 ⟨false,0,1,Wn (dg (N+(m+3)) (X%(V*4294967296^j))),false,177⟩):=by
  refine XT.all (N+1) fun j hj=> ?_
  obtain⟨s1,s2,s3⟩:=eJ (X:=X) (V:=V) (L:=N+(m+3)) (N:=N) (n:=m+2) (j:=j) (by omega) e f;rw[s2];refine(Jm a (H:=rF X V (N+(m+3)) (m+2) N (j+1)) (iu:=0) (iv:=1) (tu:=177) (tv:=177) (Vw:=dg (m+2+1) V) (by decide) (Wh _ _) (by omega) o s3 (fun i hi=>eU (by omega)) ?_ rfl).Xk;show some (Xx.mk false 0 1 (Wn (dg (N+(m+3)) (X%(V*4294967296^(j+1))))) false 177)=_;rw[s1]
 have c4:=Rz a (ws:=dg (N+1) (X / V)) (by rw[Wh];omega);rw[SD (Yc v),z]at c4;have c5:=Gv a (la:=.Xl (UI (dg (m+2) (X%V)))) .Xl (lh _ _) (by rw[Wh];omega) P;rw[o0 I,O]at c5;refine⟨_,_,Xv.of (a.Wa _ _ rfl) ((T.Xk.and (U.Xk.and (C.Xk.and (l5.Xk.and (Y.Xk.and (Z.Xk.and (c3.and (c4.Xk.and (c5.Xk.and (a.Xk.and (XT.ge (N+2)))))))))))).mono fun E K ⟨e1,e2,t,u,D,e6,e7,e8,e9,b,hK⟩=> ?_),.Xl,.Xl⟩;obtain⟨T',k,g2,g3,g4,g5⟩:=zB (K:=K) (s:=s) rfl (by omega) (by omega) b o e e7 (N+1) (Zf _) K (by omega);have d1:rF X V (N+(m+3)) (m+2) N (N+1)=[⟨false,0,1,Wn (dg (N+(m+2)+1) X),false,177⟩,⟨false,0,1,Wn (dg (m+2+1) V),false,177⟩,⟨false,0,1,Wn (List.replicate (N+1) 0),false,177⟩]:=by
  unfold rF;rw[Zi v,Nat.sub_self,show dg 0 (X / (V*4294967296^(N+1)))=[]from rfl,ZJ];rfl
 have d2:rF X V (N+(m+3)) (m+2) N 0=[⟨false,0,1,Wn (dg (N+(m+3)) (X%V)),false,177⟩,⟨false,0,1,Wn (dg (m+2+1) V),false,177⟩,⟨false,0,1,Wn (dg (N+1) (X / V)),false,177⟩]:=by
  grind [rF]
 rw[d1,d2]at k;have G:Xd .i64 (.ofNat (m+2)-.ofNat 1)=.ofNat (m+1):=by rw[X9 (by omega) (by omega)];rfl
 have f2:Xd .i64 (.ofNat (N+(m+2))-.ofNat (m+2))=.ofNat N:=by rw[X9 (by omega) (by omega),Ys]
 have f3:Xd .i64 (.ofNat (N+1))=.ofNat (N+1):=wrap_i64 (by omega);have f4:4*(N+1)<=lim:=by unfold lim;omega
 have f5:N+1<=9223372036854775807:=by omega
 have f6:(Int.ofNat N:Int)=pI (N+1):=rfl;have n1:¬m+2=1:=by omega
 have n2:m+2<=m+2+1:=by omega
 have n3:m+2<=N+(m+3):=by omega
 have f7:∀h:HF,h 1=some ⟨false,0,1,Wn (dg (m+2+1) V),false,177⟩->WN 1 h (.own 1 0 0 (m+2+1)) 0 (some (m+2))=some (.own 1 0 0 (m+2),[1]):=fun h hh=>by
  grind [NR]
 have f8:∀h:HF,h 0=some ⟨false,0,1,Wn (dg (N+(m+3)) (X%V)),false,177⟩->WN 1 h (.own 0 0 0 (N+(m+3))) 0 (some (m+2))=some (.own 0 0 0 (m+2),[0]):=fun h hh=>by
  grind [NR]
 have f9:(Wn (dg (N+(m+3)) (X%V))).take (m+2)=Wn (dg (m+2) (X%V)):=by grind [rJ,Gj]
 rw[z]at k;rw[<-f6]at k;have z1:N+(m+3)=N+(m+2)+1:=rfl;rw[z1]at k f8 f9 g4 n3;obtain⟨cE,lK,oD,oS,oR,dS,dD,k1,S,k3,k4,k5,k6,k7,a6,R⟩:=SZ;rw[<-S]at k;simp+decide only[TP,R,Vv,Xs,reduceIte,Nat.reduceAdd,x178,b,X3,e1,e2,t,u,D,e6,e8,e9,RH,c,g.len,d.len,J,F,d.idx t1,G,f2,f3,f4,f5,f7,f8,f9,n1,n3,Zf,Ty,k,g2,g3,g4,g5,VE,Wh,Uv,UK,Sp _ (Yv (Wh (N+1) (x / y)))]
theorem tT {w}(a:w<4294967296):U6 .u64 (Nat.lor (W4 .u64 (.ofNat 0)) (W4 .u64 (.ofNat w)))=.ofNat w:=by
 have e2:W4 .u64 (.ofNat w)=w:=by show w%18446744073709551616=_;omega
 rw[e2];show Int.ofNat (0|||w)=_;rw[Nat.zero_or]
theorem Jy {a w}(b:a<4294967296)(c:w<4294967296):U6 .u64 (Nat.lor (W4 .u64 (.ofNat w)) (W4 .u64 (.ofNat (a*4294967296))))=.ofNat (w+4294967296*a):=by
 have e:Nat.lor (W4 .u64 (.ofNat w)) (W4 .u64 (.ofNat (a*4294967296)))=Nat.lor (W4 .u64 (.ofNat (a*4294967296))) (W4 .u64 (.ofNat w)):=Nat.or_comm ..
 grind [wz]
theorem Ih {w}(a:w<4294967296):bD .u64 (.ofNat w) (.ofNat 0)=some (.p (La2 w)):=by
 have:=I6 (s:=0) a (by decide)
 grind
theorem mU {B}(o:Std B){l}{f}(s:UB l f)(d:WR f)(V:f.length<=2):Xv B 176 [.one l] (.one (La2 (val f))):=by
 have x:Xd .i64 (.ofNat (32*0))=.ofNat 0:=rfl;have P:Xd .i64 (.ofNat (32*1))=.ofNat 32:=rfl;have y:Xd .i64 (.ofNat 1)=.ofNat 1:=rfl;have Q:Xd .i64 (.ofNat 2)=.ofNat 2:=rfl
 match f,V with
 |[],_=>
  refine Xv.of (o.Wa _ _ rfl) ((XT.ge 3).mono fun E K z=> ?_);obtain⟨b,rfl⟩:∃b,K=b+3:=⟨K-3,by omega⟩;have e:=s.len;obtain⟨r,L,M,O,N,u,t,C,D,F,G,H,I,J,a,R⟩:=SZ;simp only[TP,R,a,Xs,reduceIte,Nat.reduceEqDiff,Nat.reduceLeDiff,Zx,x176,x176_1,e,val]
 |[w],_=>
  refine Xv.of (o.Wa _ _ rfl) ((XT.ge 3).mono fun E K z=> ?_);obtain⟨b,rfl⟩:∃b,K=b+3:=⟨K-3,by omega⟩;have e:=s.len;have p:=fun h k=>s.idx (h:=h) (k:=k) (i:=0) (w:=w) rfl
  have c:=d.cons.1;have g:w%18446744073709551616=w:=Zi (by omega);have j:val [w]=w:=by simp[val]
  have m:=tT c;have n:=Ih c;rw[j];obtain⟨r,L,M,O,N,u,t,C,D,F,G,H,I,J,a,R⟩:=SZ;simp only[TP,R,a,Xs,reduceIte,Nat.reduceEqDiff,Nat.reduceLeDiff,Nat.reduceLT,Zx,x176,x176_1,e,p,x,y,g,m,n]
 |[w,v],_=>
  refine Xv.of (o.Wa _ _ rfl) ((XT.ge 3).mono fun E K z=> ?_);obtain⟨b,rfl⟩:∃b,K=b+3:=⟨K-3,by omega⟩;have e:=s.len;have p:=fun h k=>s.idx (h:=h) (k:=k) (i:=0) (w:=w) rfl
  have q:=fun h k=>s.idx (h:=h) (k:=k) (i:=1) (w:=v) rfl
  have c:=d.cons.1;have A:=d.cons.2.cons.1;have g:w%18446744073709551616=w:=Zi (by omega);have S:v%18446744073709551616=v:=Zi (by omega);have j:val [w,v]=w+4294967296*v:=by simp[val]
  have m:=tT c;have n:=Ih c;have T:=jc A;have U:=Jy A c;rw[j];obtain⟨r,L,M,O,N,u,t,C,D,F,G,H,I,J,a,R⟩:=SZ;simp only[TP,R,a,Xs,reduceIte,Nat.reduceEqDiff,Nat.reduceLeDiff,Nat.reduceLT,Nat.reduceAdd,Zx,x176,x176_1,e,p,q,x,P,y,Q,g,m,n,S,T,U]
theorem uJ {E}{K}{p}:∀b a k H,b<k->a<18446744073709551616->b<18446744073709551616->
  ∃c,Xb E K 0 [4,7,8] x153_1 k ⟨[(4,p),(7,La3 a),(8,La3 b)],H⟩=some (.exit 2,⟨c,H⟩)/\Xi c 4=some p/\Xi c 7=some (La3 (Nat.gcd a b)):=by
 intro b;induction b using Nat.strongRecOn with
 |ind b j=>
  intro a k H t r s;rcases k with _|k;omega;cases b with
  |zero=>
   apply VW
   ·rw[Xb];simp only[Xo,Xs,reduceIte,Nat.reduceEqDiff,x153_1,Zx];rfl
   ·simp only[Xo,reduceIte,Nat.reduceEqDiff,Nat.gcd_zero_right,and_self]
  |succ b=>
   have f:a%(b+1)<b+1:=ZN _ (by omega);obtain⟨c,g,h,i⟩:=j (a%(b+1)) f (b+1) k H (by omega) (by omega) (by omega);have e:Nat.gcd a (b+1)=Nat.gcd (b+1) (a%(b+1)):=by
    grind [Nat.gcd_comm,Nat.gcd_rec]
   refine⟨c,?_,h,by rw[i,e]⟩;obtain⟨n,A,B,D,C,q,o,u,m,v,w,x,y,z,d,R⟩:=SZ;rw[<-m]at g⊢;rw[d];simp only[TP,R,Xs,reduceIte,Nat.reduceEqDiff,x153_1,Yu];exact g
abbrev GR (cs:Y'):Xx:=⟨false,0,2,[cs],false,46⟩
theorem Mh {x}(h:(Xe x).length<=2):x<18446744073709551616:=by
 have:=SN x;have a:=VP h;simp at a;omega
theorem EM {B}(i:Std B):∀y x D F,dM D x->dM F y->(Xe x).length<2000000000000->(Xe y).length<2000000000000->
  ∃(A:Bool) (r:PL) (c:N'),dM r (Nat.gcd x y)/\Tc c (Nat.gcd x y)/\XT B fun E K=>∀k e f,y<k->
   ∃s,Xb E K 0 [4,5,6] x153_2 k ⟨[(4,.one (.ptr 2 0 0 0)),(5,La4 D),(6,La4 F)],[e,f,GR [.p (.bool false),.p .Xp]]⟩=
    (bif A then some (.ret,⟨s,[e,f,GR (c.map .p)]⟩)else some (.exit 0,⟨s,[e,f,GR [.p (.bool false),.p .Xp]]⟩))/\Xi s 4=some (.one (.ptr 2 0 0 0))/\(A=false->Xi s 5=some (La4 r)):=by
 intro y;induction y using Nat.strongRecOn with
 |ind y ih=>
  intro x D F C o hx M;obtain⟨G,J,a⟩:=VO i false (l:=.Xl (UI (Xe (Nat.gcd x y)))) .Xl (Xr _) (by
   rcases Yk y with h|h
   ·grind
   ·have:=XR (Nat.gcd_le_right x h);omega)
  rw[Xn]at a
  replace a:Tc G (Nat.gcd x y):=by simpa using a
  rcases Yk y with h0|h0
  ·subst h0;refine⟨false,D,G,by grind,a,XT.of fun K n k e f S=> ?_⟩;rcases k with _|k;omega;have g:=o.len;rw[Vc]at g;apply VW
   ·obtain⟨O,lK,oD,oS,oR,Q,P,W,w,X,Y,Z,k6,k7,b,R⟩:=SZ;rw[<-w,b];simp only[TP,R,Xs,reduceIte,Nat.reduceEqDiff,x153_2,g,Zx];rfl
   ·simp only[Xo,reduceIte,Nat.reduceEqDiff,forall_const,and_self]
  have m:0<(Xe y).length:=by
   grind [Ui]
  by_cases j:(Xe x).length<=2/\(Xe y).length<=2
  ·
   have v1:=mU i C (Xr x) j.1;have v2:=mU i o (Xr y) j.2;rw[Xn]at v1 v2;have bx:=Mh j.1;have u:=Mh j.2;have hg:Nat.gcd x y<18446744073709551616:=Z2 (Nat.gcd_le_right x h0) u;have v3:=dO i hg;obtain⟨l1,l2,el⟩:=a.len;refine⟨true,.Xl (UI (Xe (Nat.gcd x y))),G,.Xl,a,(v1.Xk.and (v2.Xk.and (v3.Xk.and (J.Xk.and (i.Xk.and (XT.ge (y+1))))))).mono fun E K ⟨e1,e2,e3,e4,d,hK⟩ k e f S=> ?_⟩;rcases k with _|k;omega;obtain⟨T1,t,H,I⟩:=uJ (E:=E) (K:=K) (p:=.one (.ptr 2 0 0 0)) y x K [e,f,GR [.p (.bool false),.p .Xp]] (by omega) bx u;subst el;have z:=j.1;have N:=j.2;apply VW
   ·obtain⟨O,lK,oD,oS,oR,Q,P,W,w,X,Y,Z,k6,k7,b,R⟩:=SZ;rw[<-w]at t⊢;rw[b];simp only[TP,R,Xs,reduceIte,Nat.reduceEqDiff,Nat.reduceLeDiff,x153_2,C.len,o.len,m,z,N,d,X3,e1,e2,e3,e4,t,H,I];rfl
   ·simp only[Xo,reduceIte,Nat.reduceEqDiff,Bool.true_eq_false,false_implies,and_self]
  ·obtain⟨q,r,d1,d2,d3⟩:=kX i C o hx M h0;have T:=ZN x h0;have L:(Xe (x%y)).length<2000000000000:=Z2 (XR (Nat.le_of_lt T)) M;obtain⟨rt,r2,c2,U,V,i3⟩:=ih (x%y) T y F r o d3 M L;have eg:Nat.gcd x y=Nat.gcd y (x%y):=by grind [Nat.gcd_comm,Nat.gcd_rec]
   rw[<-eg]at U V;refine⟨rt,r2,c2,U,V,(d1.Xk.and (i3.and i.Xk)).mono fun E K ⟨e1,e2,d⟩ k e f S=> ?_⟩;rcases k with _|k;omega;obtain⟨s,t,H,I⟩:=e2 k e f (by omega);refine⟨s,?_,H,I⟩;obtain⟨O,lK,oD,oS,oR,Q,P,W,w,X,Y,Z,k6,k7,b,R⟩:=SZ;rw[<-w]at t⊢;rw[b];by_cases z:(Xe x).length<=2
   ·have N:¬(Xe y).length<=2:=fun h=>j ⟨z,h⟩
    simp only[TP,R,Xs,reduceIte,Nat.reduceEqDiff,x153_2,C.len,o.len,m,z,N,d,X3,e1];exact t
   ·simp only[TP,R,Xs,reduceIte,Nat.reduceEqDiff,x153_2,C.len,o.len,m,z,d,X3,e1];exact t
theorem Hv {B}(a:Std B){c d}{x y}(P:Tc c x)(Q:Tc d y)(z:Sm x)(A:Sm y):∃e,Xv B 153 [.agg c,.agg d] (.agg e)/\Tc e (Nat.gcd x.natAbs y.natAbs):=by
 obtain⟨m,rfl,S⟩:=P;obtain⟨n,rfl,T⟩:=Q;unfold Sm at z A;obtain⟨r1,F,s1⟩:=iJ a S (by omega);obtain⟨r2,G,s2⟩:=iJ a T (by omega);obtain⟨u1,v,w1⟩:=az a s1 (by omega);obtain⟨u2,w,w2⟩:=az a s2 (by omega);obtain⟨rt,r,c,U,C,D⟩:=EM a y.natAbs x.natAbs u1 u2 w1 w2 z A;have t:(Xe (Nat.gcd x.natAbs y.natAbs)).length<10000000000000:=by
  rcases Yk y.natAbs with h|h
  ·grind
  ·have:=XR (Nat.gcd_le_right x.natAbs h);omega
 cases rt with
 |true=>
  refine⟨c,Xv.of (a.Wa _ _ rfl) ((F.Xk.and (G.Xk.and (v.Xk.and (w.Xk.and (D.and (a.Xk.and (XT.ge (y.natAbs+1)))))))).mono fun E K ⟨e1,e2,j,k,l,f,O⟩=> ?_),C⟩;obtain⟨H,b,q,i⟩:=l K ⟨false,0,2,[[.p (.bool (decide (x<0))),.p m]],false,46⟩ ⟨false,0,2,[[.p (.bool (decide (y<0))),.p n]],false,46⟩ (by omega);obtain⟨l1,l2,o⟩:=C.len;subst o;rw[cond_true]at b;obtain⟨I,lK,oD,oS,oR,M,L,V,u,W,X,Y,Z,k7,s,R⟩:=SZ;rw[<-u]at b;simp+decide only[TP,R,Xs,reduceIte,Nat.reduceAdd,x153,f,X3,e1,e2,j,k,b,q]
 |false=>
  obtain⟨c3,J,g⟩:=VO a false U (Xr _) t;rw[Xn]at g
  replace g:Tc c3 (Nat.gcd x.natAbs y.natAbs):=by simpa using g
  refine⟨c3,Xv.of (a.Wa _ _ rfl) ((F.Xk.and (G.Xk.and (v.Xk.and (w.Xk.and (D.and (J.Xk.and (a.Xk.and (XT.ge (y.natAbs+1))))))))).mono fun E K ⟨e1,e2,j,k,l,N,f,O⟩=> ?_),g⟩;obtain⟨H,b,q,i⟩:=l K ⟨false,0,2,[[.p (.bool (decide (x<0))),.p m]],false,46⟩ ⟨false,0,2,[[.p (.bool (decide (y<0))),.p n]],false,46⟩ (by omega)
  replace i:=i rfl
  obtain⟨l1,l2,o⟩:=g.len;subst o;rw[cond_false]at b;obtain⟨I,lK,oD,oS,oR,M,L,V,u,W,X,Y,Z,k7,s,R⟩:=SZ;rw[<-u]at b;simp+decide only[TP,R,Xs,reduceIte,Nat.reduceAdd,x153,f,X3,e1,e2,j,k,N,b,q,i]
theorem gr (x){y}(m:y≠0):x / y=(if(decide (x<0)!=decide (y<0))=true then -((if x<0/\0<x.natAbs%y.natAbs then x.natAbs / y.natAbs+1 else x.natAbs / y.natAbs:Nat):Int)else((if x<0/\0<x.natAbs%y.natAbs then x.natAbs / y.natAbs+1 else x.natAbs / y.natAbs:Nat):Int))/\
  x%y=((if x<0/\0<x.natAbs%y.natAbs then y.natAbs-x.natAbs%y.natAbs else x.natAbs%y.natAbs:Nat):Int):=by
 have g:0<y.natAbs:=by omega
 have key:∀q r:Int,q*y+r=x->0<=r->r<y.natAbs->x / y=q/\x%y=r:=by
  intro q r h j k;have e1:x%y=r:=by
   rw[<-h,Int.add_comm,Int.add_mul_emod_self_right]
   grind [Int.emod_neg,Int.emod_eq_of_lt]
  grind [Int.mul_ediv_add_emod,Int.eq_of_mul_eq_mul_left]
 have i:=Yo x.natAbs y.natAbs;have l:=ZN x.natAbs g;generalize x.natAbs / y.natAbs=Q at *;generalize x.natAbs%y.natAbs=r at *;have b:(y.natAbs:Int)*(Q:Int)+(r:Int)=(x.natAbs:Int):=by exact_mod_cast i
 by_cases e:x<0<;>by_cases a:y<0
 ·have c:(x.natAbs:Int)= -x:=by omega
  have d:(y.natAbs:Int)= -y:=by omega
  rw[c,d]at b;by_cases f:0<r
  ·simp only[e,a,f,and_self,if_true,decide_true,bne_self_eq_false,ZC,if_false];refine key _ _ ?_ (by omega) (by omega)
   grind
  ·obtain rfl:r=0:=by omega
   simp only[e,a,Zx,and_false,if_false,decide_true,bne_self_eq_false,ZC];refine key _ _ ?_ (by omega) (by omega)
   grind
 ·have c:(x.natAbs:Int)= -x:=by omega
  have d:(y.natAbs:Int)=y:=by omega
  rw[c,d]at b;by_cases f:0<r
  ·simp only[e,a,f,and_self,if_true,decide_true,decide_false,bne_iff_ne,ne_eq,Bool.true_eq_false,not_false_eq_true];refine key _ _ ?_ (by omega) (by omega)
   grind
  ·obtain rfl:r=0:=by omega
   simp only[e,a,Zx,and_false,if_false,decide_true,decide_false,bne_iff_ne,ne_eq,Bool.true_eq_false,not_false_eq_true,if_true];refine key _ _ ?_ (by omega) (by omega)
   grind
 ·have c:(x.natAbs:Int)=x:=by omega
  have d:(y.natAbs:Int)= -y:=by omega
  rw[c,d]at b;simp only[e,a,false_and,if_false,decide_true,decide_false,bne_iff_ne,ne_eq,ZC,not_false_eq_true,if_true];refine key _ _ ?_ (by omega) (by omega)
  grind
 ·have c:(x.natAbs:Int)=x:=by omega
  have d:(y.natAbs:Int)=y:=by omega
  rw[c,d]at b;simp only[e,a,false_and,if_false,decide_false,bne_self_eq_false,ZC];refine key _ _ ?_ (by omega) (by omega)
  grind
theorem Gk {B}(a:Std B){l}{x}(s:dM l x)(b:(Xe x).length<2000000000000):Xv B 179 [.one l,.one (.Xl [[.int .u32 (.ofNat 1)]])] (.one (.Xl (UI (Xe (x+1))))):=by
 have h:=yf a s (lb:=.Xl (UI [1])) .Xl (Xr x) (WR.mk (by decide) WR.nil) (by omega) (by decide);rw[Xn]at h;exact h
theorem kW {B}(a:Std B){c d}{x y}(Y:Tc c x)(Z:Tc d y)(H:Sm x)(I:Sm y)(J:y≠0):∃e f,Xv B 154 [.agg c,.agg d] (.Wd [.agg e,.agg f,.one (La0 0)])/\Tc e (x / y)/\Tc f (x%y):=by
 obtain⟨m,rfl,hm⟩:=Y;obtain⟨n,rfl,G⟩:=Z;unfold Sm at H I;have t:0<y.natAbs:=by omega
 obtain⟨tr,S,M⟩:=iJ a G (by omega);have o:(Xe y.natAbs).length≠0:=by grind [Ui]
 obtain⟨q,r,N,O,z⟩:=kX a hm G H I t;obtain⟨e1,e2⟩:=gr x J;have P:=ZN x.natAbs t;have lq:(Xe (x.natAbs / y.natAbs)).length<2000000000000:=Z2 (XR (Nat.div_le_self ..)) H;have lr:(Xe (x.natAbs%y.natAbs)).length<2000000000000:=Z2 (XR (Nat.le_of_lt P)) I;by_cases g:x<0/\0<x.natAbs%y.natAbs
 ·have s1:=Gk a O lq;have Q:=kZ a G z (Xr _) (Xr _) (XR (Nat.le_of_lt P)) (by omega) (by grind [Xn]);rw[Xn,Xn]at Q;simp only[if_pos g]at e1 e2;have l1:(Xe (x.natAbs / y.natAbs+1)).length<10000000000000:=by
   grind [U1,Sg]
  have l2:(Xe (y.natAbs-x.natAbs%y.natAbs)).length<10000000000000:=by
   have:=XR (Nat.sub_le y.natAbs (x.natAbs%y.natAbs));omega
  obtain⟨e,C,h⟩:=VO a (decide (x<0)!=decide (y<0)) (l:=.Xl (UI (Xe (x.natAbs / y.natAbs+1)))) .Xl (Xr _) l1;obtain⟨f,D,b⟩:=VO a false (l:=.Xl (UI (Xe (y.natAbs-x.natAbs%y.natAbs)))) .Xl (Xr _) l2;rw[Xn]at h b;rw[<-e1]at h
  replace b:Tc f (x%y):=by rw[e2];simpa using b
  have p:((decide (x<0)==decide (y<0))!=true)=(decide (x<0)!=decide (y<0)):=by grind
  obtain⟨z1,z2,A⟩:=h.len;obtain⟨z3,z4,k⟩:=b.len;subst A k;have s:=g.1;have L:0<(Xe (x.natAbs%y.natAbs)).length:=by
   grind [Xe]
  refine⟨_,_,Xv.of (a.Wa _ _ rfl) ((S.Xk.and (N.Xk.and (s1.Xk.and (Q.Xk.and (C.Xk.and (D.Xk.and a.Xk)))))).mono fun E K ⟨u,v,T,U,j,w,i⟩=> ?_),h,b⟩;simp only[s,decide_true]at j p;obtain⟨V,lK,oD,oS,oR,X,W,k1,k2,k3,k4,k5,k6,k7,F,R⟩:=SZ;simp+decide only[TP,R,Xs,reduceIte,Nat.reduceAdd,x154,i,X3,u,v,T,U,j,w,M.len,o,s,L,z.len,p]
 ·obtain⟨e,C,h⟩:=VO a (decide (x<0)!=decide (y<0)) O (Xr _) (by omega);obtain⟨f,D,b⟩:=VO a false z (Xr _) (by omega);simp only[if_neg g]at e1 e2;rw[Xn]at h b;rw[<-e1]at h
  replace b:Tc f (x%y):=by rw[e2];simpa using b
  have p:((decide (x<0)==decide (y<0))!=true)=(decide (x<0)!=decide (y<0)):=by grind
  obtain⟨z1,z2,A⟩:=h.len;obtain⟨z3,z4,k⟩:=b.len;subst A k;refine⟨_,_,Xv.of (a.Wa _ _ rfl) ((S.Xk.and (N.Xk.and (C.Xk.and (D.Xk.and a.Xk)))).mono fun E K ⟨u,v,j,w,i⟩=> ?_),h,b⟩;obtain⟨V,lK,oD,oS,oR,X,W,k1,k2,k3,k4,k5,k6,k7,F,R⟩:=SZ;by_cases s:x<0
  ·have L:¬0<(Xe (x.natAbs%y.natAbs)).length:=by
    grind [Ui]
   simp only[s,decide_true]at j p;simp+decide only[TP,R,Xs,reduceIte,Nat.reduceAdd,x154,i,X3,u,v,j,w,M.len,o,s,L,z.len,p]
  ·simp only[s,decide_false]at j p;simp+decide only[TP,R,Xs,reduceIte,Nat.reduceAdd,x154,i,X3,u,v,j,w,M.len,o,s,p]
