/- Package integer: one word of a quotient, in place. -/
import Derived.Test.YtidginchkjhobaaGreatDiv
import Derived.Test.YtidginchkjhobaaGreatSort
set_option maxHeartbeats 16000000
set_option maxRecDepth 100000
namespace Go.Num
theorem T4 (V p:Nat)(a:0<p):V / p*p<=V/\V<(V / p+1)*p:=by
 have h:=Yz V p;have b:=Z1 V a;rw[ZR]at h;rw[ZG,Z4];omega
theorem Nl (x m:Nat):x / 4294967296^m=x / 4294967296^(m+1)*4294967296+x / 4294967296^m%4294967296:=by
 rw[ZQ,<-YX];have:=Yz (x / 4294967296^m) 4294967296;omega
theorem US {x n:Nat}(h:x<4294967296^(n+1)):x / 4294967296^n<4294967296:=Yl (by rw[ZQ]at h;exact h)
theorem SZ (n:Nat):0<4294967296^n:=YN (by decide)
theorem mv {V m:Nat}(h:tJ V (m+2)):4294967296<=2*(V / 4294967296^(m+1)):=by
 obtain⟨a,b⟩:=h;obtain⟨-,c⟩:=T4 V _ (SZ (m+1));rw[show m+2=(m+1)+1 from rfl,ZQ]at a;generalize V / 4294967296^(m+1)=v at *;generalize 4294967296^(m+1)=p at *;rcases Yx (2*v) 4294967296 with h5|h5
 ·exfalso;have :(v+1)*2<=4294967296:=by omega
  have:=Zn p this;rw[Nat.mul_right_comm]at this;rw[ZR p]at a;omega
 ·exact h5
theorem AR {U V m:Nat}(b:U<V*4294967296):U / 4294967296^(m+1)<V / 4294967296^(m+1)*4294967296+4294967296:=by
 obtain⟨-,c⟩:=T4 V _ (SZ (m+1));apply Yl;have a:V*4294967296<(V / 4294967296^(m+1)+1)*4294967296^(m+1)*4294967296:=by omega
 generalize V / 4294967296^(m+1)=v at *;generalize 4294967296^(m+1)=p at *;have :(v+1)*p*4294967296=p*(v*4294967296+4294967296):=by rw[ZR (v+1) p,Z3,ZG,Z4]
 rw[<-this];exact YE b a
theorem eR {U V m q:Nat}(k:tJ V (m+2))(o:U<V*4294967296)(l:tN (V / 4294967296^(m+1)) (V / 4294967296^m%4294967296) (U / 4294967296^(m+1)) (U / 4294967296^m%4294967296) q):U / V<=q/\q<=U / V+1:=by
 obtain⟨n,c,a⟩:=l;rw[<-Nl,<-Nl]at c a;obtain⟨d,e⟩:=T4 V _ (SZ m);obtain⟨f,g⟩:=T4 U _ (SZ m);have h:=k.1;rw[ZQ,ZQ]at h;obtain⟨D,b⟩:∃D,D=4294967295:=⟨_,rfl⟩;have i:D*4294967296^m<=V:=by
  generalize 4294967296^m=p at *;subst b;omega
 have j:U<V*(D+1):=by subst b;omega
 rw[<-b]at a;exact vk (SZ m) d e f g i (by omega) j c a
theorem HV {U V n q Y c b:Nat}(a:0<V)(k:V<4294967296^n)(h:Y+q*V=U%4294967296^n+(c+b)*4294967296^n)(l:Y<4294967296^n)(f:q=U / V):U / 4294967296^n=c+b/\Y=U%V:=by
 have d:=Yz U V;have g:=Z1 U a;have i:=Yz U (4294967296^n);have j:=Z1 U (SZ n);rw[<-f,ZR]at d;generalize 4294967296^n=p at *;generalize U / p=x at *;generalize U%p=y at *;generalize U%V=z at *;generalize q*V=w at *;have e:Y+p*x=z+(c+b)*p:=by omega
 rw[ZR p]at e;have :x=c+b:=by
  rcases Nat.lt_trichotomy x (c+b)with hx|hx|hx
  ·have:=Zn p (show x+1<=c+b from hx);rw[ZG]at this;omega
  ·exact hx
  ·have:=Zn p (show c+b+1<=x from hx);rw[ZG]at this;omega
 subst this;exact⟨rfl,by omega⟩
theorem CU {U V n q Y c b:Nat}(a:0<V)(k:V<4294967296^n)(h:Y+q*V=U%4294967296^n+(c+b)*4294967296^n)(l:Y<4294967296^n)(f:q=U / V+1):c+b=U / 4294967296^n+1/\Y+V=U%V+4294967296^n:=by
 have d:=Yz U V;have g:=Z1 U a;have i:=Yz U (4294967296^n);have j:=Z1 U (SZ n);rw[f,ZG,Z4]at h;rw[ZR]at d;generalize 4294967296^n=p at *;generalize U / p=x at *;generalize U%p=y at *;generalize U%V=z at *;generalize U / V*V=w at *;have e:Y+V+p*x=z+(c+b)*p:=by omega
 rw[ZR p]at e;have :c+b=x+1:=by
  rcases Nat.lt_trichotomy (c+b) (x+1)with hx|hx|hx
  ·have:=Zn p (show c+b<=x by omega);omega
  ·exact hx
  ·have:=Zn p (show x+2<=c+b by omega);rw[ZG]at this;omega
 rw[this]at e⊢;rw[ZG]at e;exact⟨rfl,by omega⟩
theorem ij {n X:Nat}(h:X<4294967296^n):dg (n+1) X=dg n X++[0]:=by
 rw[oV,YP h]
end Go.Num
namespace Go.Proofs.YtidginchkjhobaaGreat
open Go.Ev Go.Num
theorem wrap_u32 (a:Nat):Xe .u32 (.ofNat a)=.ofNat (a%4294967296):=rfl
theorem Hm {B:Xs}(hB:Std B){H:V'}{iu iv j m tu tv:Nat}{a f Vw:P'}{U V:Nat}(T:iu≠iv)(e:a.length=j)(hm:m<2000000000000)(hN:tJ V (m+2))(hU:U<V*4294967296)
  (hV:∀i,i<m+2->Vw[i]? =some (V / 4294967296^i%4294967296)) (Y:H[iu]? =some ⟨false,0,1,Wl (a++(dg (m+3) U++f)),false,tu⟩) (hv:H[iv]? =some ⟨false,0,1,Wl Vw,false,tv⟩):
  Ut B 192 [.one (.own iu 0 j (m+3)),.one (.own iv 0 0 (m+2))] H (.one (.p (.int .u32 (.ofNat (U / V))))) (H.set iu ⟨false,0,1,Wl (a++(dg (m+3) (U%V)++f)),false,tu⟩):=by
 refine Ut.of (hB.Wa _ _ rfl) (((XS.ge (m+5)).and hB.Xk).mono fun E K ⟨hK,f9⟩=> ?_);have L:0<V:=by
  rcases Yn V with h|h
  ·subst h;omega
  ·exact h
 have k:=hN.2;have S:U<4294967296^(m+3):=by
  have:=Yw k (show 0<4294967296 by decide);rw[<-ZQ]at this;exact YE hU this
 obtain⟨v1,v⟩:∃v1,v1=V / 4294967296^(m+1):=⟨_,rfl⟩;have e0:v1<4294967296:=by rw[v];exact US k
 obtain⟨v2,F⟩:∃v2,v2=V / 4294967296^m%4294967296:=⟨_,rfl⟩;have e8:v2<4294967296:=by rw[F];exact Z1 _ (by decide)
 obtain⟨z,l⟩:∃z,z=U / 4294967296^(m+2):=⟨_,rfl⟩;have a0:z<4294967296:=by rw[l];exact US S
 obtain⟨Z,C⟩:∃Z,Z=U / 4294967296^(m+1)%4294967296:=⟨_,rfl⟩;have d8:Z<4294967296:=by rw[C];exact Z1 _ (by decide)
 obtain⟨u2,D⟩:∃u2,u2=U / 4294967296^m%4294967296:=⟨_,rfl⟩;have d9:u2<4294967296:=by rw[D];exact Z1 _ (by decide)
 obtain⟨d,u⟩:∃d,d=z*4294967296+Z:=⟨_,rfl⟩;have g:d=U / 4294967296^(m+1):=by rw[u,l,C];exact(Nl U (m+1)).symm
 have s:=mv hN;have n:=AR (m:=m) hU;rw[<-v]at s n;rw[<-g]at n;have O:Vw[m+1]? =some v1:=by rw[hV (m+1) (by omega),v,Zh (US k)]
 have d0:Vw[m]? =some v2:=by rw[hV m (by omega),F]
 have c0:(a++(dg (m+3) U++f))[j+(m+2)]? =some z:=by rw[ph e (by omega),l,Zh (US S)]
 have a9:(a++(dg (m+3) U++f))[j+(m+1)]? =some Z:=by rw[ph e (by omega),C]
 have b0:(a++(dg (m+3) U++f))[j+m]? =some u2:=by rw[ph e (by omega),D]
 obtain⟨w,rfl⟩:∃w,v1=w+1:=⟨v1-1,by omega⟩;have M:=Yz d (w+1);have d3:=Z1 d (show 0<w+1 by omega);obtain⟨I,J⟩:∃I,I=d / (w+1):=⟨_,rfl⟩;obtain⟨r0,A⟩:∃r0,r0=d%(w+1):=⟨_,rfl⟩;rw[<-J,<-A]at M;rw[<-A]at d3;have W:I<=4294967298:=by
  rcases Yx 4294967298 I with h|h
  ·exfalso;have:=Yb (w+1) (show 4294967299<=I from h);omega
  ·exact h
 have t:d*4294967296+u2<(I+1)*((w+1)*4294967296+v2):=by
  rw[Nat.mul_add,<-Z3];have h1:d+1<=(I+1)*(w+1):=by rw[ZG,Z4,ZR I];omega
  have h2:=Zn 4294967296 h1;have h3:=Zw ((I+1)*v2);omega
 obtain⟨T1,q,a1,⟨a2,a3,a4,a5⟩,a6⟩:=vl (E:=E) (K:=K) Y hv (by omega) O d0 b0 e0 e8 d9 n 2 I r0 (by rw[ZR];exact M) (by omega) W (by omega) (.inr t) K (by omega);have bq:q<4294967296:=a6.1;rw[v,F,g,D]at a6;obtain⟨g0,g1⟩:=eR hN hU a6;have f0:H[iu]? =some ⟨false,0,1,Wl (a++[]++(dg (m+2+1) (U / 4294967296^0)++f)),false,tu⟩:=by
  rw[ZE,Nat.pow_zero,Nat.div_one];exact Y
 obtain⟨T2,N,c,b,b1,⟨b2,b3,b4,b5,b6,b7⟩,b8,b9,f7,f8,Q⟩:=qy (E:=E) (K:=K) T e (show m+2<10000000000000 by omega) bq hV (m+2) 0 K H [] 0 0 (by omega) (by omega) f0 hv rfl WG.nil (by decide) (by decide) (by simp[val,Nat.mod_one]);rw[Zh k]at Q;have hY:val N<4294967296^(m+2):=by have:=W3 b9;rwa[b8]at this
 have a7:U / 4294967296^(m+2)%4294967296=z:=by rw[l,Zh (US S)]
 have e9:dg 1 (U / 4294967296^(m+2))++f=z::f:=by
  show U / 4294967296^(m+2)%4294967296::f=_;rw[a7]
 rw[e9]at b1;have d4:(a++N).length=j+(m+2):=by rw[Zm,e,b8]
 have s1:Xe .i64 (.ofNat (m+2)-.ofNat 1)=.ofNat (m+1):=by rw[Wi (by omega) (by omega)];rfl
 have n1:m+1<m+2:=by omega
 have n2:m+1<m+3:=by omega
 have n3:m+2<m+3:=by omega
 have w1:=X7 c0;have w2:=X7 a9;have w3:=X7 O;have f1:z%18446744073709551616=z:=Zh (by omega);have f2:Z%18446744073709551616=Z:=Zh (by omega);have f3:(w+1)%18446744073709551616=w+1:=Zh (by omega);have o1:=gU a0;have o2:=uN a0 d8;rw[<-u]at o2;have o3:Tk .u64 (.ofNat d) (.ofNat (w+1))=some (.p (LC I)):=by
  show some (DL.p (.int .u64 (Xe .u64 (.ofNat (d / (w+1))))))=_;rw[<-J,wrap_u64,Zh (by omega)]
 have o4:T5 .u64 (.ofNat d) (.ofNat (w+1))=some (.p (LC r0)):=by rw[A];rfl
 have w4:=X7 (ND (a++N) f z d4);obtain⟨d1,k1,p1⟩:∃d1,Xe .u64 (.ofNat z-.ofNat c)=.ofNat d1/\d1=(z+(18446744073709551616-c))%18446744073709551616:=⟨_,No (by omega),rfl⟩;obtain⟨o,k2,p2⟩:∃o,Xe .u64 (.ofNat d1-.ofNat b)=.ofNat o/\o=(d1+(18446744073709551616-b))%18446744073709551616:=⟨_,No (by omega),rfl⟩;have d7:(a++N++z::f).set (j+(m+2)) (o%4294967296)=a++N++[o%4294967296]++f:=NC _ _ _ _ d4;rcases Yx q (U / V+1)with hcase|hcase
 ·
  have y:q=U / V:=by omega
  obtain⟨r1,r2⟩:=HV L k Q hY y;rw[<-l]at r1;have r:o=0:=by omega
  have G:a++N++[o%4294967296]++f=a++(dg (m+3) (U%V)++f):=by
   rw[r,ij (YE (Z1 U L) k),<-r2,<-TZ b9 b8 rfl];simp
  have hz:(o / 9223372036854775808=0)=True:=by rw[r];simp
  have X:q%4294967296=U / V:=by rw[Zh bq];exact y
  clear p1 p2 r t M n s u g v F l C D J A r1 r2 W;obtain⟨cE,lK,oD,oS,oR,dS,dD,e1,e2,e3,e4,e5,e6,e7,hL,R⟩:=SH;rw[<-e2]at a1 b1;simp only[TD,R,Vx,Xr,reduceIte,Nat.reduceEqDiff,Nat.reduceLeDiff,Nat.reduceAdd,Zw,x192,Y,hv,s1,n1,n2,n3,w1,w2,w3,w4,f1,f2,f3,o1,o2,o3,o4,a1,a2,a3,a4,a5,b1,b2,b3,b4,b5,b6,b7,k1,k2,PI Y,List.set_set,WQ,d7,G,hz,X]
 ·
  have y:q=U / V+1:=by omega
  obtain⟨r1,r2⟩:=CU L k Q hY y;rw[<-l]at r1;have r:o=18446744073709551615:=by omega
  have hz:(o / 9223372036854775808=0)=False:=by rw[r];simp
  have f4:(H.set iu ⟨false,0,1,Wl (a++N++[o%4294967296]++f),false,tu⟩)[iu]? =some ⟨false,0,1,Wl (a++[]++(N.drop 0++(o%4294967296::f))),false,tu⟩:=by
   rw[PI Y];simp
  obtain⟨T3,zl,c3,c1,⟨c2,c4,c5,c6⟩,c7,c8,c9,c10⟩:=qS (E:=E) (K:=K) (q:=q) T e (show m+2<10000000000000 by omega) b8 b9 hV (m+2) 0 K (H.set iu ⟨false,0,1,Wl (a++N++[o%4294967296]++f),false,tu⟩) [] 0 (by omega) (by omega) f4 (de T hv) rfl WG.nil (by decide) (by simp[val,Nat.mod_one]);rw[Zh k,r2]at c10;have hZ:val zl<4294967296^(m+2):=by have:=W3 c8;rwa[c7]at this
  have hR:=Z1 U L;have a8:c3=1:=by
   rcases Yx c3 1 with h|h
   ·have h0:c3=0:=by omega
    rw[h0,YJ,Z0]at c10;rw[c10]at hZ;exact absurd hZ (Nat.not_lt.2 (Nat.le_add_left ..))
   ·omega
  have f5:val zl=U%V:=by rw[a8,Z4]at c10;exact Nat.add_right_cancel c10
  rw[List.set_set]at c1;have P:(a++zl).length=j+(m+2):=by rw[Zm,e,c7]
  have w5:=X7 (ND (a++zl) f (o%4294967296) P);have f6:∀x,(a++zl++o%4294967296::f).set (j+(m+2)) x=a++zl++[x]++f:=fun x=>NC _ _ _ _ P
  have d6:(o%4294967296+c3%4294967296)%4294967296=0:=by rw[r,a8]
  have G:a++zl++[0]++f=a++(dg (m+3) (U%V)++f):=by
   rw[ij (YE hR k),<-f5,<-TZ c8 c7 rfl];simp
  have d5:U / V<4294967296:=by rw[y]at bq;exact Nat.lt_of_succ_lt bq
  have k3:Xe .u64 (.ofNat q-.ofNat 1)=.ofNat (U / V):=by
   rw[y,PD (Nat.le_add_left ..),wrap_u64,Yj,Zh (YE d5 (by decide))]
  have X:U / V%4294967296=U / V:=Zh d5;clear p1 p2 r t M n s u g v F l C D J A r1 r2 W;obtain⟨cE,lK,oD,oS,oR,dS,dD,e1,e2,e3,e4,e5,e6,e7,hL,R⟩:=SH;rw[<-e2]at a1 b1 c1;simp only[TD,R,Vx,Xr,reduceIte,Nat.reduceEqDiff,Nat.reduceLeDiff,Nat.reduceAdd,Zw,x192,Y,hv,s1,n1,n2,n3,w1,w2,w3,w4,f1,f2,f3,o1,o2,o3,o4,a1,a2,a3,a4,a5,b1,b2,b3,b4,b5,b6,b7,k1,k2,PI Y,List.set_set,WQ,d7,hz,c1,c2,c4,c5,c6,w5,f6,d6,G,k3,X]
end Go.Proofs.YtidginchkjhobaaGreat
namespace Go.Num
def rz:Nat->P'->Bool
 |_,[]=>true
 |i,b::bs=>Nat.ble 1 b&&Nat.ble b 8&&Nat.ble (2^(b-1)) i&&Nat.blt i (2^b)&&rz (i+1) bs
theorem mb:∀{a:P'} {i k:Nat},rz i a=true->k<a.length->∃b,a[k]? =some b/\1<=b/\b<=8/\2^(b-1)<=i+k/\i+k<2^b
 |[],_,_,_,hk=>by simp at hk
 |b::a,i,0,h,_=>by
  simp only[rz,Zs,Go.Ev.xP,Go.Ev.cu,decide_eq_true_eq]at h
  grind
 |b::a,i,k+1,h,hk=>by
  simp only[rz,Zs]at h;obtain⟨c,d,e⟩:=mb (k:=k) h.2 (by simpa using hk)
  grind
theorem NF {i:Nat}(h0:0<i)(h:i<256):∃b,(0::1::2::2::3::3::3::3::4::4::4::4::4::4::4::4::5::5::5::5::5::5::5::5::5::5::5::5::5::5::5::5::6::6::6::6::6::6::6::6::6::6::6::6::6::6::6::6::6::6::6::6::6::6::6::6::6::6::6::6::6::6::6::6::7::7::7::7::7::7::7::7::7::7::7::7::7::7::7::7::7::7::7::7::7::7::7::7::7::7::7::7::7::7::7::7::7::7::7::7::7::7::7::7::7::7::7::7::7::7::7::7::7::7::7::7::7::7::7::7::7::7::7::7::7::7::7::7::8::8::8::8::8::8::8::8::8::8::8::8::8::8::8::8::8::8::8::8::8::8::8::8::8::8::8::8::8::8::8::8::8::8::8::8::8::8::8::8::8::8::8::8::8::8::8::8::8::8::8::8::8::8::8::8::8::8::8::8::8::8::8::8::8::8::8::8::8::8::8::8::8::8::8::8::8::8::8::8::8::8::8::8::8::8::8::8::8::8::8::8::8::8::8::8::8::8::8::8::8::8::8::8::8::8::8::8::8::8::8::8::8::8::8::8::8::8::8::8::8::8::8::8::8::8::8::8::[])[i]? =some b/\1<=b/\b<=8/\2^(b-1)<=i/\i<2^b:=by
 obtain⟨k,rfl⟩:∃k,i=k+1:=⟨i-1,by omega⟩;generalize a:(1::2::2::3::3::3::3::4::4::4::4::4::4::4::4::5::5::5::5::5::5::5::5::5::5::5::5::5::5::5::5::6::6::6::6::6::6::6::6::6::6::6::6::6::6::6::6::6::6::6::6::6::6::6::6::6::6::6::6::6::6::6::6::7::7::7::7::7::7::7::7::7::7::7::7::7::7::7::7::7::7::7::7::7::7::7::7::7::7::7::7::7::7::7::7::7::7::7::7::7::7::7::7::7::7::7::7::7::7::7::7::7::7::7::7::7::7::7::7::7::7::7::7::7::7::7::7::8::8::8::8::8::8::8::8::8::8::8::8::8::8::8::8::8::8::8::8::8::8::8::8::8::8::8::8::8::8::8::8::8::8::8::8::8::8::8::8::8::8::8::8::8::8::8::8::8::8::8::8::8::8::8::8::8::8::8::8::8::8::8::8::8::8::8::8::8::8::8::8::8::8::8::8::8::8::8::8::8::8::8::8::8::8::8::8::8::8::8::8::8::8::8::8::8::8::8::8::8::8::8::8::8::8::8::8::8::8::8::8::8::8::8::8::8::8::8::8::8::8::8::8::8::8::8::8::[])=L;have l:L.length=255:=by subst a;rfl
 have c:rz 1 L=true:=by subst a;rfl
 obtain⟨b,d,e,f,g,j⟩:=mb (k:=k) c (by omega)
 grind
theorem u9 {w k b:Nat}(g:1<=b)(d:2^(b-1)<=w / 2^k)(e:w / 2^k<2^b):2^(k+b-1)<=w/\w<2^(k+b):=by
 have f:0<2^k:=YN (by decide);obtain⟨a,c⟩:=T4 w _ f;constructor
 ·rw[show k+b-1=(b-1)+k by omega,Yu];exact Zx (Zn _ d) a
 ·rw[Nat.add_comm,Yu];exact ZZ c (Zn _ e)
end Go.Num
namespace Go.Proofs.YtidginchkjhobaaGreat
open Go.Ev Go.Num
theorem zz {B:Xs}(f:Std B){w:Nat}(h0:0<w)(I:w<4294967296):∃l,1<=l/\l<=32/\2^(l-1)<=w/\w<2^l/\Xu B 206 [.one (.int .u32 (.ofNat w))] (.one (LA l)):=by
 have z:∀(E:Xa) C,XL E .TI C=false:=fun _ _=>rfl
 have A:∀(E:Xa) (b:Nat) (C:X') (h:HF) (n:Nat),We E b .TI C h n=Ui C:=fun _ _ _ _ _=>rfl
 have G:∀a,QX .u32 (.ofNat a) (.ofNat 16)=some (.p (.int .u32 (.ofNat (a / 65536)))):=fun _=>rfl
 have H:∀a,QX .u32 (.ofNat a) (.ofNat 8)=some (.p (.int .u32 (.ofNat (a / 256)))):=fun _=>rfl
 by_cases y:65536<=w
 ·by_cases u:256<=w / 65536
  ·have e:w / 65536 / 256=w / 16777216:=by omega
   obtain⟨b,q,s,D,c,d⟩:=NF (i:=w / 65536 / 256) (by omega) (by omega);rw[e]at c d;obtain⟨g,j⟩:=u9 (w:=w) (k:=24) s c d;have m:Xe .i64 (.ofNat b)=.ofNat b:=wrap_i64 (by omega);have t:Xe .i64 (.ofNat (24+b))=.ofNat (24+b):=by grind [wrap_i64]
   have o:Xe .u8 (.ofNat (w / 65536 / 256))=.ofNat (w / 65536 / 256):=wrap_u8 (by omega);have v:Xe .i64 (.ofNat 24)=.ofNat 24:=rfl;have x:Xe .i64 (.ofNat 8)=.ofNat 8:=rfl;have F:Xe .i64 (.ofNat 16)=.ofNat 16:=rfl;refine⟨24+b,by omega,by omega,g,j,Xu.of (f.Wa _ _ rfl) (f.Xk.mono fun E K r=> ?_)⟩;simp only[Xo,Xr,z,A,reduceIte,Nat.reduceEqDiff,Nat.reduceLeDiff,Nat.reduceAdd,x206,y,u,G,H,dN q,m,t,o,v]
  ·obtain⟨b,q,s,D,c,d⟩:=NF (i:=w / 65536) (by omega) (by omega);obtain⟨g,j⟩:=u9 (w:=w) (k:=16) s c d;have m:Xe .i64 (.ofNat b)=.ofNat b:=wrap_i64 (by omega);have t:Xe .i64 (.ofNat (16+b))=.ofNat (16+b):=by grind [wrap_i64]
   have o:Xe .u8 (.ofNat (w / 65536))=.ofNat (w / 65536):=wrap_u8 (by omega);have v:Xe .i64 (.ofNat 24)=.ofNat 24:=rfl;have x:Xe .i64 (.ofNat 8)=.ofNat 8:=rfl;have F:Xe .i64 (.ofNat 16)=.ofNat 16:=rfl;refine⟨16+b,by omega,by omega,g,j,Xu.of (f.Wa _ _ rfl) (f.Xk.mono fun E K r=> ?_)⟩;simp only[Xo,Xr,z,A,reduceIte,Nat.reduceEqDiff,Nat.reduceLeDiff,x206,y,u,G,dN q,m,t,o]
 ·by_cases u:256<=w
  ·obtain⟨b,q,s,D,c,d⟩:=NF (i:=w / 256) (by omega) (by omega);obtain⟨g,j⟩:=u9 (w:=w) (k:=8) s c d;have m:Xe .i64 (.ofNat b)=.ofNat b:=wrap_i64 (by omega);have t:Xe .i64 (.ofNat (8+b))=.ofNat (8+b):=by grind [wrap_i64]
   have o:Xe .u8 (.ofNat (w / 256))=.ofNat (w / 256):=wrap_u8 (by omega);have v:Xe .i64 (.ofNat 24)=.ofNat 24:=rfl;have x:Xe .i64 (.ofNat 8)=.ofNat 8:=rfl;have F:Xe .i64 (.ofNat 16)=.ofNat 16:=rfl;refine⟨8+b,by omega,by omega,g,j,Xu.of (f.Wa _ _ rfl) (f.Xk.mono fun E K r=> ?_)⟩;simp only[Xo,Xr,z,A,reduceIte,Nat.reduceEqDiff,Nat.reduceLeDiff,x206,y,u,H,dN q,m,t,o,x]
  ·obtain⟨b,q,s,D,c,d⟩:=NF (i:=w) (by omega) (by omega);have g:2^(b-1)<=w:=c;have j:w<2^b:=d;have m:Xe .i64 (.ofNat b)=.ofNat b:=wrap_i64 (by omega);have t:Xe .i64 (.ofNat (0+b))=.ofNat (b):=by grind
   have o:Xe .u8 (.ofNat (w))=.ofNat (w):=wrap_u8 (by omega);have v:Xe .i64 (.ofNat 24)=.ofNat 24:=rfl;have x:Xe .i64 (.ofNat 8)=.ofNat 8:=rfl;have F:Xe .i64 (.ofNat 16)=.ofNat 16:=rfl;refine⟨b,by omega,by omega,g,j,Xu.of (f.Wa _ _ rfl) (f.Xk.mono fun E K r=> ?_)⟩;simp only[Xo,Xr,z,A,reduceIte,Nat.reduceEqDiff,Nat.reduceLeDiff,x206,y,u,dN q,m,o]
theorem HD {B:Xs}(a:Std B){w:Nat}(h0:0<w)(i:w<4294967296):∃l,1<=l/\l<=32/\2^(l-1)<=w/\w<2^l/\Xu B 190 [.one (.int .u32 (.ofNat w))] (.one (LA (32-l))):=by
 obtain⟨l,e,c,f,g,h⟩:=zz a h0 i;refine⟨l,e,c,f,g,Xu.of (a.Wa _ _ rfl) ((h.Xk.and a.Xk).mono fun E K ⟨e1,b⟩=> ?_)⟩;have d:Xe .i64 (.ofNat 32-.ofNat l)=.ofNat (32-l):=Wi c (by decide);simp only[Xo,Xr,reduceIte,Nat.reduceEqDiff,Nat.reduceLeDiff,x190,b,X4,e1,d]
end Go.Proofs.YtidginchkjhobaaGreat
namespace Go.Num
theorem E2 {y n l w:Nat}(h:1<=l)(m:l<=32)(j:w=y / 4294967296^n)(f:2^(l-1)<=w)(g:w<2^l):tJ (y*2^(32-l)) (n+1):=by
 obtain⟨a,b⟩:=T4 y _ (SZ n);rw[<-j]at a b;have e1:2^(l-1)*2^(32-l)=2147483648:=by
  rw[<-Yu,show l-1+(32-l)=31 by omega]
 have e2:2^l*2^(32-l)=4294967296:=by
  rw[<-Yu,show l+(32-l)=32 by omega]
 have i:0<2^(32-l):=YN (by decide);have d:2147483648<=w*2^(32-l):=by rw[<-e1];exact Zn _ f
 have e:(w+1)*2^(32-l)<=4294967296:=by rw[<-e2];exact Zn _ g
 generalize 2^(32-l)=z at *;generalize c:4294967296^n=P at *;constructor
 ·rw[ZQ,c];have:=Zn z a;have k:=Zn P d
  grind
 ·rw[ZQ,c];have:=Yw b i;have k:=Zn P e
  grind
theorem qu {n y:Nat}(h:(Xd y).length=n+1):(Xd y)[n]? =some (y / 4294967296^n)/\0<y / 4294967296^n/\y / 4294967296^n<4294967296/\4294967296^n<=y:=by
 have e:Xd y=dg (n+1) y:=TZ (Xp y) h (Xm y);have a:=Px (Vc y) (by omega);rw[Xm,h,Yj]at a;have b:y<4294967296^(n+1):=by grind [Sv]
 have c:=US b;refine⟨?_,Nat.div_pos a (SZ n),c,a⟩
 grind [dO]
theorem dI {X V L N n j:Nat}(d:L=j+((n+1)+(N-j)))(b:0<V)(a:V<4294967296^n):
  dg L (X%(V*4294967296^(j+1)))=dg j (X%(V*4294967296^(j+1)))++(dg (n+1) (X%(V*4294967296^(j+1)) / 4294967296^j)++List.replicate (N-j) 0)/\
  dg L (X%(V*4294967296^j))=dg j (X%(V*4294967296^(j+1)))++(dg (n+1) (X%(V*4294967296^(j+1)) / 4294967296^j%V)++List.replicate (N-j) 0)/\
  X%(V*4294967296^(j+1)) / 4294967296^j<V*4294967296:=by
 have i:=SZ j;have g:V*4294967296^j ∣ V*4294967296^(j+1):=Nat.mul_dvd_mul_left V (by rw[ZQ];exact Nat.dvd_mul_right ..);have e1:X%(V*4294967296^j)=X%(V*4294967296^(j+1))%(V*4294967296^j):=(Nat.mod_mod_of_dvd X g).symm;have h:X%(V*4294967296^(j+1))<V*4294967296^(j+1):=Z1 _ (Yi b (SZ _));rw[e1];generalize X%(V*4294967296^(j+1))=Z at *;have e:Z / 4294967296^j<V*4294967296:=Yl (by simp_all [ZQ,Nat.mul_left_comm]);have f:Z / 4294967296^j<4294967296^(n+1):=by
  omega
 have e2:Z%(V*4294967296^j) / 4294967296^j=Z / 4294967296^j%V:=by rw[ZR V,Nat.mod_mul_right_div_self]
 have c:dg j (Z%(V*4294967296^j))=dg j Z:=xM (Nat.mod_mod_of_dvd Z (Nat.dvd_mul_left ..));refine⟨?_,?_,e⟩
 ·simp_all [S8,YP,oU]
 ·rw[d,S8,S8,e2,c,YP (YE (Z1 _ b) (YE a (Nat.pow_lt_pow_right (by decide) (Nat.lt_succ_self n)))),oU]
theorem lQ {X V N j:Nat}(a:j<=N):X%(V*4294967296^(j+1)) / 4294967296^j / V::dg (N-j) (X / (V*4294967296^(j+1)))=dg (N+1-j) (X / (V*4294967296^j)):=by
 rw[show N+1-j=(N-j)+1 by omega,dg,YX,YX,ZQ,<-Z3,ZR (4294967296^j) V,Nat.mod_mul_right_div_self]
end Go.Num
namespace Go.Proofs.YtidginchkjhobaaGreat
open Go.Ev Go.Num
theorem Nq {d id XM c a l u:Nat}{h:HF}{b:Xx}(g:h id=some b)(e:l<=u)(f:u<=a)(i:b.sz=d):WA d h (.own id XM c a) l (some u)=some (.own id XM (c+l) (u-l),[id]):=by simp_all [WA,Py]
def pS (X V L n N i:Nat):V':=[⟨false,0,1,Wl (dg L (X%(V*4294967296^i))),false,177⟩,⟨false,0,1,Wl (dg (n+1) V),false,177⟩,⟨false,0,1,Wl (List.replicate i 0++dg (N+1-i) (X / (V*4294967296^i))),false,177⟩]
theorem xJ {E:Xa}{K:Nat}{X V L m N s:Nat}(M:L=N+(m+3))(O:N<2000000000000)(S:m<2000000000000)(e:E.mode=md)(P:tJ V (m+2))(g:0<V)
  (n:∀j,j<N+1->E.heap 192 [.one (.own 0 0 j (m+3)),.one (.own 1 0 0 (m+2))] (pS X V L (m+2) N (j+1))=some (.one (.p (.int .u32 (.ofNat (X%(V*4294967296^(j+1)) / 4294967296^j / V)))),(pS X V L (m+2) N (j+1)).set 0 ⟨false,0,1,Wl (dg L (X%(V*4294967296^j))),false,177⟩)):
  ∀(i:Nat),i<=N+1->∀k,i<k->∃c,Xb E K 0 [8,9,10,11,12,13] x178_1 k ⟨[(8,LB (m+2)),(9,LB s),(10,.one (.own 0 0 0 L)),(11,.one (.own 1 0 0 (m+2))),(12,.one (.own 2 0 0 (N+1))),(13,.one (.p (.int .i64 (pI i))))],pS X V L (m+2) N i⟩=some (.exit 0,⟨c,pS X V L (m+2) N 0⟩)/\
   Xh c 8=some (LB (m+2))/\Xh c 9=some (LB s)/\Xh c 10=some (.one (.own 0 0 0 L))/\Xh c 12=some (.one (.own 2 0 0 (N+1)))
 |_,_,0,h=>by omega
 |0,_,k+1,_=>by
  apply VO
  ·obtain⟨o,T,U,Y,W,r,q,e1,e2,t,u,v,w,x,d,R⟩:=SH;rw[<-e2,d];simp only[TD,R,Xr,reduceIte,Nat.reduceEqDiff,x178_1,fS];rfl
  ·simp only[Xo,reduceIte,Nat.reduceEqDiff,and_self]
 |j+1,hj,k+1,hk=>by
  obtain⟨c,l,J⟩:=xJ M O S e P g n j (by omega) k (by omega);refine⟨c,?_,J⟩;have f:=n j (by omega);obtain⟨Q,y⟩:∃Q,Q=X%(V*4294967296^(j+1)) / 4294967296^j / V:=⟨_,rfl⟩;have a:=lQ (X:=X) (V:=V) (N:=N) (j:=j) (by omega);rw[<-y]at f a;have z:Xe .i64 (.ofNat (j+(m+2)))=.ofNat (j+(m+2)):=wrap_i64 (by omega);have A:Xe .i64 (.ofNat (j+(m+2)+1))=.ofNat (j+(m+2)+1):=wrap_i64 (by omega);have B:Xe .i64 (.ofNat j-.ofNat 1)=pI j:=UI (by omega);have C:WA 1 (Xj (pS X V L (m+2) N (j+1))) (.own 0 0 0 L) j (some (j+(m+2)+1))=some (.own 0 0 j (m+3),[0]):=by
   rw[Nq (b:=⟨false,0,1,Wl (dg L (X%(V*4294967296^(j+1)))),false,177⟩) rfl (by omega) (by omega) rfl,Yg,show j+(m+2)+1-j=m+3 by omega]
  have F:((pS X V L (m+2) N (j+1)).set 0 ⟨false,0,1,Wl (dg L (X%(V*4294967296^j))),false,177⟩)[2]? =some ⟨false,0,1,Wl (List.replicate (j+1) 0++dg (N-j) (X / (V*4294967296^(j+1)))),false,177⟩:=by
   show some (Xx.mk false 0 1 (Wl (List.replicate (j+1) 0++dg (N+1-(j+1)) (X / (V*4294967296^(j+1))))) false 177)=_
   grind
  have G:=X7 (ga 0 j (dg (N-j) (X / (V*4294967296^(j+1)))));have H:((pS X V L (m+2) N (j+1)).set 0 ⟨false,0,1,Wl (dg L (X%(V*4294967296^j))),false,177⟩).set 2 ⟨false,0,1,Wl (List.replicate j 0++dg (N+1-j) (X / (V*4294967296^j))),false,177⟩=pS X V L (m+2) N j:=rfl;have I:j<N+1:=by omega
  generalize pS X V L (m+2) N (j+1)=D at *;generalize (D.set 0 ⟨false,0,1,Wl (dg L (X%(V*4294967296^j))),false,177⟩)=D1 at *;generalize pS X V L (m+2) N j=D2 at *;generalize pS X V L (m+2) N 0=D3 at *;generalize dg (N-j) (X / (V*4294967296^(j+1)))=l1 at *;generalize dg (N+1-j) (X / (V*4294967296^j))=l2 at *;obtain⟨o,T,U,Y,W,r,q,e1,e2,t,u,v,w,x,d,R⟩:=SH;rw[<-e2]at l⊢;rw[d];simp only[TD,R,Vx,Xr,reduceIte,Nat.reduceEqDiff,Nat.reduceLeDiff,Zw,x178_1,bF,e,X4,f,z,A,B,C,F,G,I,WQ,Nr,a,H];exact l
theorem gB {B:Xs}(a:Std B){l:PL}{x:Nat}(s:cK l x)(b:(Xd x).length<9223372036854775808):∃r,Xu B 175 [.one l] (.one r)/\cK r x:=by grind [qn,U3,Xp,Xm]
theorem jN {B:Xs}(a:Std B){la lb:PL}{x y:Nat}(g:cK la x)(d:cK lb y)(hx:(Xd x).length<2000000000000)(hy:(Xd y).length<2000000000000)(Q:0<y):
  ∃q r,Xu B 178 [.one la,.one lb] (.X9 [.one q,.one r])/\cK q (x / y)/\cK r (x%y):=by
 obtain⟨ra,T,g⟩:=gB a g (by omega);obtain⟨rb,U,d⟩:=gB a d (by omega);have C:=fh a g d (Xp _) (Xp _) (Vc _) (Vc _) (by omega) (by omega);rw[Xm,Xm]at C;by_cases c:x<y
 ·obtain⟨r,A,h2⟩:=NS a g (by omega);refine⟨.Xq,r,Xu.of (a.Wa _ _ rfl) ((T.Xk.and (U.Xk.and (C.Xk.and (A.Xk.and a.Xk)))).mono fun E K ⟨e1,e2,t,u,b⟩=> ?_),?_,?_⟩
  ·simp only[Xo,Xr,reduceIte,Nat.reduceEqDiff,Nat.reduceLeDiff,x178,b,X4,e1,e2,t,u,Rq,c]
  ·grind [YP,cK.zero]
  grind [Zh]
 by_cases A:(Xd y).length=1
 ·obtain⟨k1,S⟩:=T6.1 A;have hi:(Xd y)[0]? =some y:=by grind [On]
  have hd:=Dg a g (Xp _) (by omega) k1 S;rw[Xm]at hd;have a5:=Z1 x Q;have hw:=cO a (m:=x%y) (by omega);have G:y%18446744073709551616=y:=Zh (by omega);refine⟨_,_,Xu.of (a.Wa _ _ rfl) ((T.Xk.and (U.Xk.and (C.Xk.and (hd.Xk.and (hw.Xk.and a.Xk))))).mono fun E K ⟨e1,e2,t,u,D,b⟩=> ?_),.Xn,.Xn⟩;simp only[Xo,Xr,reduceIte,Nat.reduceEqDiff,Nat.reduceLeDiff,x178,b,X4,e1,e2,t,u,D,Rq,c,d.len,A,d.idx hi,G]
 have a8:2<=(Xd y).length:=by
  grind [Xd]
 obtain⟨m,J⟩:∃m,(Xd y).length=m+2:=⟨(Xd y).length-2,by omega⟩;obtain⟨t1,t2,t3,t4⟩:=qu (n:=m+1) J;obtain⟨w,ew⟩:∃w,w=y / 4294967296^(m+1):=⟨_,rfl⟩;rw[<-ew]at t1 t2 t3;obtain⟨l,l1,l2,l3,l4,l5⟩:=HD a t2 t3;obtain⟨s,es⟩:∃s,s=32-l:=⟨_,rfl⟩;have P:s<32:=by omega
 have o:=E2 l1 l2 ew l3 l4;rw[<-es]at o l5;have a7:=XN (Nat.le_of_not_lt c);obtain⟨N,F⟩:∃N,(Xd x).length=N+(m+2):=⟨(Xd x).length-(m+2),by omega⟩;have M:0<2^s:=YN (by decide);obtain⟨V,eV⟩:∃V,V=y*2^s:=⟨_,rfl⟩;obtain⟨X,eX⟩:∃X,X=x*2^s:=⟨_,rfl⟩;have e:0<V:=by simp_all [Yi]
 rw[<-eV]at o;have f:=o.2;have a0:V<4294967296^(m+2+1):=YE f (Nat.pow_lt_pow_right (by decide) (Nat.lt_succ_self _));have v:X<V*4294967296^(N+1):=by
  have W:=Sv x;rw[F]at W;have a2:2^s<=2^31:=Yt (by decide) (by omega);have a3:X<4294967296^(N+(m+2))*2147483648:=by
   rw[eX];exact ZZ (Yw W M) (Yb _ a2)
  have a4:=Zn (4294967296^(N+1)) o.1;rw[<-Yu,show m+2+(N+1)=(N+(m+2))+1 by omega,ZQ,Z3]at a4;omega
 have z:X / V=x / y:=by grind [Nat.mul_div_mul_right]
 have O:X%V / 2^s=x%y:=by grind [Nat.mul_mod_mul_right,Nat.mul_div_cancel]
 have I:X%V<4294967296^(m+2):=YE (Z1 _ e) f;have Y:=wm a g (Xp _) (by omega) P [];rw[Xm,<-eX,F,Zr,ZF]at Y;have Z:=wm a d (Xp _) (by omega) P [⟨false,0,1,Wl (dg (N+(m+2)+1) X),false,177⟩];rw[Xm,<-eV,J,ZO,ZY]at Z;have c3:XS B fun E _=>∀j,j<N+1->E.heap 192 [.one (.own 0 0 j (m+3)),.one (.own 1 0 0 (m+2))] (pS X V (N+(m+3)) (m+2) N (j+1))=some (.one (.p (.int .u32 (.ofNat (X%(V*4294967296^(j+1)) / 4294967296^j / V)))),(pS X V (N+(m+3)) (m+2) N (j+1)).set 0 ⟨false,0,1,Wl (dg (N+(m+3)) (X%(V*4294967296^j))),false,177⟩):=by
  refine XS.all (N+1) fun j hj=> ?_
  obtain⟨s1,s2,s3⟩:=dI (X:=X) (V:=V) (L:=N+(m+3)) (N:=N) (n:=m+2) (j:=j) (by omega) e f;rw[s2];refine(Hm a (H:=pS X V (N+(m+3)) (m+2) N (j+1)) (iu:=0) (iv:=1) (tu:=177) (tv:=177) (Vw:=dg (m+2+1) V) (by decide) (Wd _ _) (by omega) o s3 (fun i hi=>dO (by omega)) ?_ rfl).Xk;show some (Xx.mk false 0 1 (Wl (dg (N+(m+3)) (X%(V*4294967296^(j+1))))) false 177)=_;rw[s1]
 have c4:=Rl a (ws:=dg (N+1) (X / V)) (by rw[Wd];omega);rw[Sh (Yl v),z]at c4;have c5:=Ek a (la:=.Xn (Uy (dg (m+2) (X%V)))) .Xn (jP _ _) (by rw[Wd];omega) P;rw[nD I,O]at c5;refine⟨_,_,Xu.of (a.Wa _ _ rfl) ((T.Xk.and (U.Xk.and (C.Xk.and (l5.Xk.and (Y.Xk.and (Z.Xk.and (c3.and (c4.Xk.and (c5.Xk.and (a.Xk.and (XS.ge (N+2)))))))))))).mono fun E K ⟨e1,e2,t,u,D,e6,e7,e8,e9,b,hK⟩=> ?_),.Xn,.Xn⟩;obtain⟨T',k,g2,g3,g4,g5⟩:=xJ (K:=K) (s:=s) rfl (by omega) (by omega) b o e e7 (N+1) (Ze _) K (by omega);have d1:pS X V (N+(m+3)) (m+2) N (N+1)=[⟨false,0,1,Wl (dg (N+(m+2)+1) X),false,177⟩,⟨false,0,1,Wl (dg (m+2+1) V),false,177⟩,⟨false,0,1,Wl (List.replicate (N+1) 0),false,177⟩]:=by
  unfold pS;rw[Zh v,YH,show dg 0 (X / (V*4294967296^(N+1)))=[]from rfl,ZE];rfl
 have d2:pS X V (N+(m+3)) (m+2) N 0=[⟨false,0,1,Wl (dg (N+(m+3)) (X%V)),false,177⟩,⟨false,0,1,Wl (dg (m+2+1) V),false,177⟩,⟨false,0,1,Wl (dg (N+1) (X / V)),false,177⟩]:=by
  grind [pS]
 rw[d1,d2]at k;have G:Xe .i64 (.ofNat (m+2)-.ofNat 1)=.ofNat (m+1):=by rw[Wi (by omega) (by omega)];rfl
 have f2:Xe .i64 (.ofNat (N+(m+2))-.ofNat (m+2))=.ofNat N:=by rw[Wi (by omega) (by omega),Yj]
 have f3:Xe .i64 (.ofNat (N+1))=.ofNat (N+1):=wrap_i64 (by omega);have f4:4*(N+1)<=lim:=by unfold lim;omega
 have f5:N+1<=9223372036854775807:=by omega
 have f6:(Int.ofNat N:Int)=pI (N+1):=rfl;have n1:¬m+2=1:=by omega
 have n2:m+2<=m+2+1:=by omega
 have n3:m+2<=N+(m+3):=by omega
 have f7:∀h:HF,h 1=some ⟨false,0,1,Wl (dg (m+2+1) V),false,177⟩->WA 1 h (.own 1 0 0 (m+2+1)) 0 (some (m+2))=some (.own 1 0 0 (m+2),[1]):=fun h hh=>by
  grind [Nq]
 have f8:∀h:HF,h 0=some ⟨false,0,1,Wl (dg (N+(m+3)) (X%V)),false,177⟩->WA 1 h (.own 0 0 0 (N+(m+3))) 0 (some (m+2))=some (.own 0 0 0 (m+2),[0]):=fun h hh=>by
  grind [Nq]
 have f9:(Wl (dg (N+(m+3)) (X%V))).take (m+2)=Wl (dg (m+2) (X%V)):=by grind [pV,Ea]
 rw[z]at k;rw[<-f6]at k;have z1:N+(m+3)=N+(m+2)+1:=rfl;rw[z1]at k f8 f9 g4 n3;obtain⟨cE,lK,oD,oS,oR,dS,dD,k1,S,k3,k4,k5,k6,k7,a6,R⟩:=SH;rw[<-S]at k;simp(decide:=true)only[TD,R,Vx,Xr,reduceIte,Nat.reduceAdd,x178,b,X4,e1,e2,t,u,D,e6,e8,e9,Rq,c,g.len,d.len,J,F,d.idx t1,G,f2,f3,f4,f5,f7,f8,f9,n1,n3,Ze,Tn,k,g2,g3,g4,g5,Vv,Wd,Um,UA,Tx _ (YI (Wd (N+1) (x / y)))]
theorem rO {w:Nat}(a:w<4294967296):UU .u64 (Nat.lor (WR .u64 (.ofNat 0)) (WR .u64 (.ofNat w)))=.ofNat w:=by
 have e2:WR .u64 (.ofNat w)=w:=by show w%18446744073709551616=_;omega
 rw[e2];show Int.ofNat (0|||w)=_;rw[Nat.zero_or]
theorem Hx {a w:Nat}(b:a<4294967296)(c:w<4294967296):UU .u64 (Nat.lor (WR .u64 (.ofNat w)) (WR .u64 (.ofNat (a*4294967296))))=.ofNat (w+4294967296*a):=by
 have e:Nat.lor (WR .u64 (.ofNat w)) (WR .u64 (.ofNat (a*4294967296)))=Nat.lor (WR .u64 (.ofNat (a*4294967296))) (WR .u64 (.ofNat w)):=Nat.or_comm ..
 grind [uN]
theorem Gc {w:Nat}(a:w<4294967296):aN .u64 (.ofNat w) (.ofNat 0)=some (.p (LC w)):=by
 have:=GZ (s:=0) a (by decide)
 grind
theorem lh {B:Xs}(o:Std B){l:PL}{f:P'}(s:Us l f)(d:WG f)(V:f.length<=2):Xu B 176 [.one l] (.one (LC (val f))):=by
 have x:Xe .i64 (.ofNat (32*0))=.ofNat 0:=rfl;have P:Xe .i64 (.ofNat (32*1))=.ofNat 32:=rfl;have y:Xe .i64 (.ofNat 1)=.ofNat 1:=rfl;have Q:Xe .i64 (.ofNat 2)=.ofNat 2:=rfl
 match f,V with
 |[],_=>
  refine Xu.of (o.Wa _ _ rfl) ((XS.ge 3).mono fun E K z=> ?_);obtain⟨b,rfl⟩:∃b,K=b+3:=⟨K-3,by omega⟩;have e:=s.len;obtain⟨r,L,M,O,N,u,t,C,D,F,G,H,I,J,a,R⟩:=SH;simp only[TD,R,a,Xr,reduceIte,Nat.reduceEqDiff,Nat.reduceLeDiff,Zv,x176,x176_1,e,val]
 |[w],_=>
  refine Xu.of (o.Wa _ _ rfl) ((XS.ge 3).mono fun E K z=> ?_);obtain⟨b,rfl⟩:∃b,K=b+3:=⟨K-3,by omega⟩;have e:=s.len;have p:=fun h k=>s.idx (h:=h) (k:=k) (i:=0) (w:=w) rfl
  have c:=d.cons.1;have g:w%18446744073709551616=w:=Zh (by omega);have j:val [w]=w:=by simp[val]
  have m:=rO c;have n:=Gc c;rw[j];obtain⟨r,L,M,O,N,u,t,C,D,F,G,H,I,J,a,R⟩:=SH;simp only[TD,R,a,Xr,reduceIte,Nat.reduceEqDiff,Nat.reduceLeDiff,Nat.reduceLT,Zv,x176,x176_1,e,p,x,y,g,m,n]
 |[w,v],_=>
  refine Xu.of (o.Wa _ _ rfl) ((XS.ge 3).mono fun E K z=> ?_);obtain⟨b,rfl⟩:∃b,K=b+3:=⟨K-3,by omega⟩;have e:=s.len;have p:=fun h k=>s.idx (h:=h) (k:=k) (i:=0) (w:=w) rfl
  have q:=fun h k=>s.idx (h:=h) (k:=k) (i:=1) (w:=v) rfl
  have c:=d.cons.1;have A:=d.cons.2.cons.1;have g:w%18446744073709551616=w:=Zh (by omega);have S:v%18446744073709551616=v:=Zh (by omega);have j:val [w,v]=w+4294967296*v:=by simp[val]
  have m:=rO c;have n:=Gc c;have T:=gU A;have U:=Hx A c;rw[j];obtain⟨r,L,M,O,N,u,t,C,D,F,G,H,I,J,a,R⟩:=SH;simp only[TD,R,a,Xr,reduceIte,Nat.reduceEqDiff,Nat.reduceLeDiff,Nat.reduceLT,Nat.reduceAdd,Zv,x176,x176_1,e,p,q,x,P,y,Q,g,m,n,S,T,U]
theorem sI {E:Xa}{K:Nat}{p:DV}:∀(b a k:Nat) (H:V'),b<k->a<18446744073709551616->b<18446744073709551616->
  ∃c,Xb E K 0 [4,7,8] x153_1 k ⟨[(4,p),(7,LD a),(8,LD b)],H⟩=some (.exit 2,⟨c,H⟩)/\Xh c 4=some p/\Xh c 7=some (LD (Nat.gcd a b)):=by
 intro b;induction b using Nat.strongRecOn with
 |ind b j=>
  intro a k H t r s;obtain⟨k,rfl⟩:∃l,k=l+1:=⟨k-1,by omega⟩;cases b with
  |zero=>
   apply VO
   ·rw[Xb];simp only[Xo,Xr,reduceIte,Nat.reduceEqDiff,x153_1,Zv];rfl
   ·simp only[Xo,reduceIte,Nat.reduceEqDiff,Nat.gcd_zero_right,and_self]
  |succ b=>
   have f:a%(b+1)<b+1:=Z1 _ (by omega);obtain⟨c,g,h,i⟩:=j (a%(b+1)) f (b+1) k H (by omega) (by omega) (by omega);have e:Nat.gcd a (b+1)=Nat.gcd (b+1) (a%(b+1)):=by
    grind [Nat.gcd_comm,Nat.gcd_rec]
   refine⟨c,?_,h,by rw[i,e]⟩;obtain⟨n,A,B,D,C,q,o,u,m,v,w,x,y,z,d,R⟩:=SH;rw[<-m]at g⊢;rw[d];simp only[TD,R,Xr,reduceIte,Nat.reduceEqDiff,x153_1,YD];exact g
abbrev EJ (cs:Y'):Xx:=⟨false,0,2,[cs],false,46⟩
theorem J8 {x:Nat}(h:(Xd x).length<=2):x<18446744073709551616:=by
 have:=Sv x;have a:=VG h;simp at a;omega
theorem CJ {B:Xs}(i:Std B):∀(y x:Nat) (D F:PL),cK D x->cK F y->(Xd x).length<2000000000000->(Xd y).length<2000000000000->
  ∃(A:Bool) (r:PL) (c:N'),cK r (Nat.gcd x y)/\Tw c (Nat.gcd x y)/\XS B fun E K=>∀(k:Nat) (e f:Xx),y<k->
   ∃s,Xb E K 0 [4,5,6] x153_2 k ⟨[(4,.one (.ptr 2 0 0 0)),(5,.one (.p D)),(6,.one (.p F))],[e,f,EJ [.p (.bool false),.p .Xq]]⟩=
    (bif A then some (.ret,⟨s,[e,f,EJ (c.map .p)]⟩)else some (.exit 0,⟨s,[e,f,EJ [.p (.bool false),.p .Xq]]⟩))/\Xh s 4=some (.one (.ptr 2 0 0 0))/\(A=false->Xh s 5=some (.one (.p r))):=by
 intro y;induction y using Nat.strongRecOn with
 |ind y ih=>
  intro x D F C o hx M;obtain⟨G,J,a⟩:=VF i false (l:=.Xn (Uy (Xd (Nat.gcd x y)))) .Xn (Xp _) (by
   rcases Yn y with h|h
   ·grind
   ·have:=XN (Nat.gcd_le_right x h);omega)
  rw[Xm]at a
  replace a:Tw G (Nat.gcd x y):=by simpa using a
  rcases Yn y with h0|h0
  ·subst h0;refine⟨false,D,G,by grind,a,XS.of fun K n k e f S=> ?_⟩;obtain⟨k,rfl⟩:∃v,k=v+1:=⟨k-1,by omega⟩;have g:=o.len;rw[Vn]at g;apply VO
   ·obtain⟨O,lK,oD,oS,oR,Q,P,W,w,X,Y,Z,k6,k7,b,R⟩:=SH;rw[<-w,b];simp only[TD,R,Xr,reduceIte,Nat.reduceEqDiff,x153_2,g,Zv];rfl
   ·simp only[Xo,reduceIte,Nat.reduceEqDiff,forall_const,and_self]
  have m:0<(Xd y).length:=by
   grind [VE]
  by_cases j:(Xd x).length<=2/\(Xd y).length<=2
  ·
   have v1:=lh i C (Xp x) j.1;have v2:=lh i o (Xp y) j.2;rw[Xm]at v1 v2;have bx:=J8 j.1;have u:=J8 j.2;have hg:Nat.gcd x y<18446744073709551616:=Z7 (Nat.gcd_le_right x h0) u;have v3:=cO i hg;obtain⟨l1,l2,el⟩:=a.len;refine⟨true,.Xn (Uy (Xd (Nat.gcd x y))),G,.Xn,a,(v1.Xk.and (v2.Xk.and (v3.Xk.and (J.Xk.and (i.Xk.and (XS.ge (y+1))))))).mono fun E K ⟨e1,e2,e3,e4,d,hK⟩ k e f S=> ?_⟩;obtain⟨k,rfl⟩:∃v,k=v+1:=⟨k-1,by omega⟩;obtain⟨T1,t,H,I⟩:=sI (E:=E) (K:=K) (p:=.one (.ptr 2 0 0 0)) y x K [e,f,EJ [.p (.bool false),.p .Xq]] (by omega) bx u;subst el;have z:=j.1;have N:=j.2;apply VO
   ·obtain⟨O,lK,oD,oS,oR,Q,P,W,w,X,Y,Z,k6,k7,b,R⟩:=SH;rw[<-w]at t⊢;rw[b];simp only[TD,R,Xr,reduceIte,Nat.reduceEqDiff,Nat.reduceLeDiff,x153_2,C.len,o.len,m,z,N,d,X4,e1,e2,e3,e4,t,H,I];rfl
   ·simp only[Xo,reduceIte,Nat.reduceEqDiff,Bool.true_eq_false,false_implies,and_self]
  ·obtain⟨q,r,d1,d2,d3⟩:=jN i C o hx M h0;have T:=Z1 x h0;have L:(Xd (x%y)).length<2000000000000:=Z7 (XN (Nat.le_of_lt T)) M;obtain⟨rt,r2,c2,U,V,i3⟩:=ih (x%y) T y F r o d3 M L;have eg:Nat.gcd x y=Nat.gcd y (x%y):=by grind [Nat.gcd_comm,Nat.gcd_rec]
   rw[<-eg]at U V;refine⟨rt,r2,c2,U,V,(d1.Xk.and (i3.and i.Xk)).mono fun E K ⟨e1,e2,d⟩ k e f S=> ?_⟩;obtain⟨k,rfl⟩:∃v,k=v+1:=⟨k-1,by omega⟩;obtain⟨s,t,H,I⟩:=e2 k e f (by omega);refine⟨s,?_,H,I⟩;obtain⟨O,lK,oD,oS,oR,Q,P,W,w,X,Y,Z,k6,k7,b,R⟩:=SH;rw[<-w]at t⊢;rw[b];by_cases z:(Xd x).length<=2
   ·have N:¬(Xd y).length<=2:=fun h=>j ⟨z,h⟩
    simp only[TD,R,Xr,reduceIte,Nat.reduceEqDiff,x153_2,C.len,o.len,m,z,N,d,X4,e1];exact t
   ·simp only[TD,R,Xr,reduceIte,Nat.reduceEqDiff,x153_2,C.len,o.len,m,z,d,X4,e1];exact t
theorem Fo {B:Xs}(a:Std B){c d:N'}{x y:Int}(P:Tw c x)(Q:Tw d y)(z:Sm x)(A:Sm y):∃e,Xu B 153 [.agg c,.agg d] (.agg e)/\Tw e (Nat.gcd x.natAbs y.natAbs):=by
 obtain⟨m,rfl,S⟩:=P;obtain⟨n,rfl,T⟩:=Q;unfold Sm at z A;obtain⟨r1,F,s1⟩:=gB a S (by omega);obtain⟨r2,G,s2⟩:=gB a T (by omega);obtain⟨u1,v,w1⟩:=NS a s1 (by omega);obtain⟨u2,w,w2⟩:=NS a s2 (by omega);obtain⟨rt,r,c,U,C,D⟩:=CJ a y.natAbs x.natAbs u1 u2 w1 w2 z A;have t:(Xd (Nat.gcd x.natAbs y.natAbs)).length<10000000000000:=by
  rcases Yn y.natAbs with h|h
  ·grind
  ·have:=XN (Nat.gcd_le_right x.natAbs h);omega
 cases rt with
 |true=>
  refine⟨c,Xu.of (a.Wa _ _ rfl) ((F.Xk.and (G.Xk.and (v.Xk.and (w.Xk.and (D.and (a.Xk.and (XS.ge (y.natAbs+1)))))))).mono fun E K ⟨e1,e2,j,k,l,f,O⟩=> ?_),C⟩;obtain⟨H,b,q,i⟩:=l K ⟨false,0,2,[[.p (.bool (decide (x<0))),.p m]],false,46⟩ ⟨false,0,2,[[.p (.bool (decide (y<0))),.p n]],false,46⟩ (by omega);obtain⟨l1,l2,o⟩:=C.len;subst o;rw[cond_true]at b;obtain⟨I,lK,oD,oS,oR,M,L,V,u,W,X,Y,Z,k7,s,R⟩:=SH;rw[<-u]at b;simp(decide:=true)only[TD,R,Xr,reduceIte,Nat.reduceAdd,x153,f,X4,e1,e2,j,k,b,q]
 |false=>
  obtain⟨c3,J,g⟩:=VF a false U (Xp _) t;rw[Xm]at g
  replace g:Tw c3 (Nat.gcd x.natAbs y.natAbs):=by simpa using g
  refine⟨c3,Xu.of (a.Wa _ _ rfl) ((F.Xk.and (G.Xk.and (v.Xk.and (w.Xk.and (D.and (J.Xk.and (a.Xk.and (XS.ge (y.natAbs+1))))))))).mono fun E K ⟨e1,e2,j,k,l,N,f,O⟩=> ?_),g⟩;obtain⟨H,b,q,i⟩:=l K ⟨false,0,2,[[.p (.bool (decide (x<0))),.p m]],false,46⟩ ⟨false,0,2,[[.p (.bool (decide (y<0))),.p n]],false,46⟩ (by omega)
  replace i:=i rfl
  obtain⟨l1,l2,o⟩:=g.len;subst o;rw[cond_false]at b;obtain⟨I,lK,oD,oS,oR,M,L,V,u,W,X,Y,Z,k7,s,R⟩:=SH;rw[<-u]at b;simp(decide:=true)only[TD,R,Xr,reduceIte,Nat.reduceAdd,x153,f,X4,e1,e2,j,k,N,b,q,i]
theorem fb (x:Int){y:Int}(m:y≠0):x / y=(if(decide (x<0)!=decide (y<0))=true then -((if x<0/\0<x.natAbs%y.natAbs then x.natAbs / y.natAbs+1 else x.natAbs / y.natAbs:Nat):Int)else((if x<0/\0<x.natAbs%y.natAbs then x.natAbs / y.natAbs+1 else x.natAbs / y.natAbs:Nat):Int))/\
  x%y=((if x<0/\0<x.natAbs%y.natAbs then y.natAbs-x.natAbs%y.natAbs else x.natAbs%y.natAbs:Nat):Int):=by
 have g:0<y.natAbs:=by omega
 have key:∀q r:Int,q*y+r=x->0<=r->r<y.natAbs->x / y=q/\x%y=r:=by
  intro q r h j k;have e1:x%y=r:=by
   rw[<-h,Int.add_comm,Int.add_mul_emod_self_right]
   grind [Int.emod_neg,Int.emod_eq_of_lt]
  grind [Int.mul_ediv_add_emod,Int.eq_of_mul_eq_mul_left]
 have i:=Yz x.natAbs y.natAbs;have l:=Z1 x.natAbs g;generalize x.natAbs / y.natAbs=Q at *;generalize x.natAbs%y.natAbs=r at *;have b:(y.natAbs:Int)*(Q:Int)+(r:Int)=(x.natAbs:Int):=by exact_mod_cast i
 by_cases e:x<0<;>by_cases a:y<0
 ·have c:(x.natAbs:Int)= -x:=by omega
  have d:(y.natAbs:Int)= -y:=by omega
  rw[c,d]at b;by_cases f:0<r
  ·simp only[e,a,f,and_self,if_true,decide_true,bne_self_eq_false,Zy,if_false];refine key _ _ ?_ (by omega) (by omega)
   grind
  ·obtain rfl:r=0:=by omega
   simp only[e,a,Zv,and_false,if_false,decide_true,bne_self_eq_false,Zy];refine key _ _ ?_ (by omega) (by omega)
   grind
 ·have c:(x.natAbs:Int)= -x:=by omega
  have d:(y.natAbs:Int)=y:=by omega
  rw[c,d]at b;by_cases f:0<r
  ·simp only[e,a,f,and_self,if_true,decide_true,decide_false,bne_iff_ne,ne_eq,Bool.true_eq_false,not_false_eq_true];refine key _ _ ?_ (by omega) (by omega)
   grind
  ·obtain rfl:r=0:=by omega
   simp only[e,a,Zv,and_false,if_false,decide_true,decide_false,bne_iff_ne,ne_eq,Bool.true_eq_false,not_false_eq_true,if_true];refine key _ _ ?_ (by omega) (by omega)
   grind
 ·have c:(x.natAbs:Int)=x:=by omega
  have d:(y.natAbs:Int)= -y:=by omega
  rw[c,d]at b;simp only[e,a,false_and,if_false,decide_true,decide_false,bne_iff_ne,ne_eq,Zy,not_false_eq_true,if_true];refine key _ _ ?_ (by omega) (by omega)
  grind
 ·have c:(x.natAbs:Int)=x:=by omega
  have d:(y.natAbs:Int)=y:=by omega
  rw[c,d]at b;simp only[e,a,false_and,if_false,decide_false,bne_self_eq_false,Zy];refine key _ _ ?_ (by omega) (by omega)
  grind
theorem Eb {B:Xs}(a:Std B){l:PL}{x:Nat}(s:cK l x)(b:(Xd x).length<2000000000000):Xu B 179 [.one l,.one (.Xn [[.int .u32 (.ofNat 1)]])] (.one (.Xn (Uy (Xd (x+1))))):=by
 have h:=wa a s (lb:=.Xn (Uy [1])) .Xn (Xp x) (WG.mk (by decide) WG.nil) (by omega) (by decide);rw[Xm]at h;exact h
theorem jM {B:Xs}(a:Std B){c d:N'}{x y:Int}(Y:Tw c x)(Z:Tw d y)(H:Sm x)(I:Sm y)(J:y≠0):∃e f,Xu B 154 [.agg c,.agg d] (.X9 [.agg e,.agg f,.one (LA 0)])/\Tw e (x / y)/\Tw f (x%y):=by
 obtain⟨m,rfl,hm⟩:=Y;obtain⟨n,rfl,G⟩:=Z;unfold Sm at H I;have t:0<y.natAbs:=by omega
 obtain⟨tr,S,M⟩:=gB a G (by omega);have o:(Xd y.natAbs).length≠0:=by grind [VE]
 obtain⟨q,r,N,O,z⟩:=jN a hm G H I t;obtain⟨e1,e2⟩:=fb x J;have P:=Z1 x.natAbs t;have lq:(Xd (x.natAbs / y.natAbs)).length<2000000000000:=Z7 (XN (Nat.div_le_self ..)) H;have lr:(Xd (x.natAbs%y.natAbs)).length<2000000000000:=Z7 (XN (Nat.le_of_lt P)) I;by_cases g:x<0/\0<x.natAbs%y.natAbs
 ·have s1:=Eb a O lq;have Q:=jO a G z (Xp _) (Xp _) (XN (Nat.le_of_lt P)) (by omega) (by grind [Xm]);rw[Xm,Xm]at Q;simp only[if_pos g]at e1 e2;have l1:(Xd (x.natAbs / y.natAbs+1)).length<10000000000000:=by
   grind [UQ,T6]
  have l2:(Xd (y.natAbs-x.natAbs%y.natAbs)).length<10000000000000:=by
   have:=XN (Nat.sub_le y.natAbs (x.natAbs%y.natAbs));omega
  obtain⟨e,C,h⟩:=VF a (decide (x<0)!=decide (y<0)) (l:=.Xn (Uy (Xd (x.natAbs / y.natAbs+1)))) .Xn (Xp _) l1;obtain⟨f,D,b⟩:=VF a false (l:=.Xn (Uy (Xd (y.natAbs-x.natAbs%y.natAbs)))) .Xn (Xp _) l2;rw[Xm]at h b;rw[<-e1]at h
  replace b:Tw f (x%y):=by rw[e2];simpa using b
  have p:((decide (x<0)==decide (y<0))!=true)=(decide (x<0)!=decide (y<0)):=by grind
  obtain⟨z1,z2,A⟩:=h.len;obtain⟨z3,z4,k⟩:=b.len;subst A k;have s:=g.1;have L:0<(Xd (x.natAbs%y.natAbs)).length:=by
   grind [Xd]
  refine⟨_,_,Xu.of (a.Wa _ _ rfl) ((S.Xk.and (N.Xk.and (s1.Xk.and (Q.Xk.and (C.Xk.and (D.Xk.and a.Xk)))))).mono fun E K ⟨u,v,T,U,j,w,i⟩=> ?_),h,b⟩;simp only[s,decide_true]at j p;obtain⟨V,lK,oD,oS,oR,X,W,k1,k2,k3,k4,k5,k6,k7,F,R⟩:=SH;simp(decide:=true)only[TD,R,Xr,reduceIte,Nat.reduceAdd,x154,i,X4,u,v,T,U,j,w,M.len,o,s,L,z.len,p]
 ·obtain⟨e,C,h⟩:=VF a (decide (x<0)!=decide (y<0)) O (Xp _) (by omega);obtain⟨f,D,b⟩:=VF a false z (Xp _) (by omega);simp only[if_neg g]at e1 e2;rw[Xm]at h b;rw[<-e1]at h
  replace b:Tw f (x%y):=by rw[e2];simpa using b
  have p:((decide (x<0)==decide (y<0))!=true)=(decide (x<0)!=decide (y<0)):=by grind
  obtain⟨z1,z2,A⟩:=h.len;obtain⟨z3,z4,k⟩:=b.len;subst A k;refine⟨_,_,Xu.of (a.Wa _ _ rfl) ((S.Xk.and (N.Xk.and (C.Xk.and (D.Xk.and a.Xk)))).mono fun E K ⟨u,v,j,w,i⟩=> ?_),h,b⟩;obtain⟨V,lK,oD,oS,oR,X,W,k1,k2,k3,k4,k5,k6,k7,F,R⟩:=SH;by_cases s:x<0
  ·have L:¬0<(Xd (x.natAbs%y.natAbs)).length:=by
    grind [VE]
   simp only[s,decide_true]at j p;simp(decide:=true)only[TD,R,Xr,reduceIte,Nat.reduceAdd,x154,i,X4,u,v,j,w,M.len,o,s,L,z.len,p]
  ·simp only[s,decide_false]at j p;simp(decide:=true)only[TD,R,Xr,reduceIte,Nat.reduceAdd,x154,i,X4,u,v,j,w,M.len,o,s,p]
end Go.Proofs.YtidginchkjhobaaGreat
