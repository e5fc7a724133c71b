/- Package integer: one word of a quotient, in place. -/
import Derived.Test.YtidginchkjhobaaGreatDiv
import Derived.Test.YtidginchkjhobaaGreatSort
set_option maxHeartbeats 16000000
set_option maxRecDepth 100000
namespace Go.Num
theorem Ty (V p:Nat)(a:0<p):V / p*p<=V/\V<(V / p+1)*p:=by
 have h:=YC V p;have b:=ZY V a;rw[ZH]at h;rw[ZG,ZZ];omega
theorem Oq (x m:Nat):x / 4294967296^m=x / 4294967296^(m+1)*4294967296+x / 4294967296^m%4294967296:=by
 rw[ZK,<-Nat.div_div_eq_div_mul];have:=YC (x / 4294967296^m) 4294967296;omega
theorem Uy {x n:Nat}(h:x<4294967296^(n+1)):x / 4294967296^n<4294967296:=Yp (by rw[ZK]at h;exact h)
theorem Sh (n:Nat):0<4294967296^n:=YL (by decide)
theorem jw {V m:Nat}(h:qa V (m+2)):4294967296<=2*(V / 4294967296^(m+1)):=by
 obtain⟨a,b⟩:=h;obtain⟨-,c⟩:=Ty V _ (Sh (m+1));rw[show m+2=(m+1)+1 from rfl,ZK]at a;generalize V / 4294967296^(m+1)=v at *;generalize 4294967296^(m+1)=p at *;rcases Yj (2*v) 4294967296 with h5|h5
 ·exfalso;have :(v+1)*2<=4294967296:=by omega
  have:=Zp p this;rw[YX]at this;rw[ZH p]at a;omega
 ·exact h5
theorem xu {U V m:Nat}(b:U<V*4294967296):U / 4294967296^(m+1)<V / 4294967296^(m+1)*4294967296+4294967296:=by
 obtain⟨-,c⟩:=Ty V _ (Sh (m+1));apply Yp;have a:V*4294967296<(V / 4294967296^(m+1)+1)*4294967296^(m+1)*4294967296:=by omega
 generalize V / 4294967296^(m+1)=v at *;generalize 4294967296^(m+1)=p at *;have :(v+1)*p*4294967296=p*(v*4294967296+4294967296):=by rw[ZH (v+1) p,Yi,ZG,ZZ]
 rw[<-this];exact YI b a
theorem cY {U V m q:Nat}(k:qa V (m+2))(o:U<V*4294967296)(l:qd (V / 4294967296^(m+1)) (V / 4294967296^m%4294967296) (U / 4294967296^(m+1)) (U / 4294967296^m%4294967296) q):U / V<=q/\q<=U / V+1:=by
 obtain⟨n,c,a⟩:=l;rw[<-Oq,<-Oq]at c a;obtain⟨d,e⟩:=Ty V _ (Sh m);obtain⟨f,g⟩:=Ty U _ (Sh m);have h:=k.1;rw[ZK,ZK]at h;obtain⟨D,b⟩:∃D,D=4294967295:=⟨_,rfl⟩;have i:D*4294967296^m<=V:=by
  generalize 4294967296^m=p at *;subst b;omega
 have j:U<V*(D+1):=by subst b;omega
 rw[<-b]at a;exact rI (Sh m) d e f g i (by omega) j c a
theorem DD {U V n q Y c b:Nat}(a:0<V)(k:V<4294967296^n)(h:Y+q*V=U%4294967296^n+(c+b)*4294967296^n)(l:Y<4294967296^n)(f:q=U / V):U / 4294967296^n=c+b/\Y=U%V:=by
 have d:=YC U V;have g:=ZY U a;have i:=YC U (4294967296^n);have j:=ZY U (Sh n);rw[<-f,ZH]at d;generalize 4294967296^n=p at *;generalize U / p=x at *;generalize U%p=y at *;generalize U%V=z at *;generalize q*V=w at *;have e:Y+p*x=z+(c+b)*p:=by omega
 rw[ZH p]at e;have :x=c+b:=by
  rcases Nat.lt_trichotomy x (c+b)with hx|hx|hx
  ·have:=Zp p (show x+1<=c+b from hx);rw[ZG]at this;omega
  ·exact hx
  ·have:=Zp p (show c+b+1<=x from hx);rw[ZG]at this;omega
 subst this;exact⟨rfl,by omega⟩
theorem zB {U V n q Y c b:Nat}(a:0<V)(k:V<4294967296^n)(h:Y+q*V=U%4294967296^n+(c+b)*4294967296^n)(l:Y<4294967296^n)(f:q=U / V+1):c+b=U / 4294967296^n+1/\Y+V=U%V+4294967296^n:=by
 have d:=YC U V;have g:=ZY U a;have i:=YC U (4294967296^n);have j:=ZY U (Sh n);rw[f,ZG,ZZ]at h;rw[ZH]at d;generalize 4294967296^n=p at *;generalize U / p=x at *;generalize U%p=y at *;generalize U%V=z at *;generalize U / V*V=w at *;have e:Y+V+p*x=z+(c+b)*p:=by omega
 rw[ZH p]at e;have :c+b=x+1:=by
  rcases Nat.lt_trichotomy (c+b) (x+1)with hx|hx|hx
  ·have:=Zp p (show c+b<=x by omega);omega
  ·exact hx
  ·have:=Zp p (show x+2<=c+b by omega);rw[ZG]at this;omega
 rw[this]at e⊢;rw[ZG]at e;exact⟨rfl,by omega⟩
theorem fc {n X:Nat}(h:X<4294967296^n):dg (n+1) X=dg n X++[0]:=by
 rw[lS,YY h]
end Go.Num
namespace Go.Proofs.YtidginchkjhobaaGreat
open Go.Ev Go.Num
theorem wrap_u32 (a:Nat):Xe .u32 (.ofNat a)=.ofNat (a%4294967296):=rfl
theorem Df {B:Xs}(hB:Std B){H:List Xz}{iu iv j m tu tv:Nat}{a f Vw:List Nat}{U V:Nat}(T:iu≠iv)(e:a.length=j)(hm:m<100000000000)(hN:qa V (m+2))(hU:U<V*4294967296)
  (hV:∀i,i<m+2->Vw[i]? =some (V / 4294967296^i%4294967296)) (Y:H[iu]? =some ⟨false,0,1,Wi (a++(dg (m+3) U++f)),false,tu⟩) (hv:H[iv]? =some ⟨false,0,1,Wi Vw,false,tv⟩):
  S3 B 192 [.one (.own iu 0 j (m+3)),.one (.own iv 0 0 (m+2))] H (.one (.p (.int .u32 (.ofNat (U / V))))) (H.set iu ⟨false,0,1,Wi (a++(dg (m+3) (U%V)++f)),false,tu⟩):=by
 refine S3.of (hB.Wa _ _ rfl) (((X1.ge (m+5)).and hB.Xj).mono fun E K ⟨hK,f9⟩=> ?_);have L:0<V:=by
  rcases Yh V with h|h
  ·subst h;omega
  ·exact h
 have k:=hN.2;have S:U<4294967296^(m+3):=by
  have:=Yu k (show 0<4294967296 by decide);rw[<-ZK]at this;exact YI hU this
 obtain⟨v1,v⟩:∃v1,v1=V / 4294967296^(m+1):=⟨_,rfl⟩;have e0:v1<4294967296:=by rw[v];exact Uy k
 obtain⟨v2,F⟩:∃v2,v2=V / 4294967296^m%4294967296:=⟨_,rfl⟩;have e8:v2<4294967296:=by rw[F];exact ZY _ (by decide)
 obtain⟨z,l⟩:∃z,z=U / 4294967296^(m+2):=⟨_,rfl⟩;have a0:z<4294967296:=by rw[l];exact Uy S
 obtain⟨Z,C⟩:∃Z,Z=U / 4294967296^(m+1)%4294967296:=⟨_,rfl⟩;have d8:Z<4294967296:=by rw[C];exact ZY _ (by decide)
 obtain⟨u2,D⟩:∃u2,u2=U / 4294967296^m%4294967296:=⟨_,rfl⟩;have d9:u2<4294967296:=by rw[D];exact ZY _ (by decide)
 obtain⟨d,u⟩:∃d,d=z*4294967296+Z:=⟨_,rfl⟩;have g:d=U / 4294967296^(m+1):=by rw[u,l,C];exact(Oq U (m+1)).symm
 have s:=jw hN;have n:=xu (m:=m) hU;rw[<-v]at s n;rw[<-g]at n;have O:Vw[m+1]? =some v1:=by rw[hV (m+1) (by omega),v,Zg (Uy k)]
 have d0:Vw[m]? =some v2:=by rw[hV m (by omega),F]
 have c0:(a++(dg (m+3) U++f))[j+(m+2)]? =some z:=by rw[lZ e (by omega),l,Zg (Uy S)]
 have a9:(a++(dg (m+3) U++f))[j+(m+1)]? =some Z:=by rw[lZ e (by omega),C]
 have b0:(a++(dg (m+3) U++f))[j+m]? =some u2:=by rw[lZ e (by omega),D]
 obtain⟨w,rfl⟩:∃w,v1=w+1:=⟨v1-1,by omega⟩;have M:=YC d (w+1);have d3:=ZY d (show 0<w+1 by omega);obtain⟨I,J⟩:∃I,I=d / (w+1):=⟨_,rfl⟩;obtain⟨r0,A⟩:∃r0,r0=d%(w+1):=⟨_,rfl⟩;rw[<-J,<-A]at M;rw[<-A]at d3;have W:I<=4294967298:=by
  rcases Yj 4294967298 I with h|h
  ·exfalso;have:=Z9 (w+1) (show 4294967299<=I from h);omega
  ·exact h
 have t:d*4294967296+u2<(I+1)*((w+1)*4294967296+v2):=by
  rw[Nat.mul_add,<-Yi];have h1:d+1<=(I+1)*(w+1):=by rw[ZG,ZZ,ZH I];omega
  have h2:=Zp 4294967296 h1;have h3:=Zt ((I+1)*v2);omega
 obtain⟨T1,q,a1,⟨a2,a3,a4,a5⟩,a6⟩:=rJ (E:=E) (K:=K) Y hv (by omega) O d0 b0 e0 e8 d9 n 2 I r0 (by rw[ZH];exact M) (by omega) W (by omega) (.inr t) K (by omega);have bq:q<4294967296:=a6.1;rw[v,F,g,D]at a6;obtain⟨g0,g1⟩:=cY hN hU a6;have f0:H[iu]? =some ⟨false,0,1,Wi (a++[]++(dg (m+2+1) (U / 4294967296^0)++f)),false,tu⟩:=by
  rw[ZS,Nat.pow_zero,Nat.div_one];exact Y
 obtain⟨T2,N,c,b,b1,⟨b2,b3,b4,b5,b6,b7⟩,b8,b9,f7,f8,Q⟩:=mU (E:=E) (K:=K) T e (show m+2<1000000000000 by omega) bq hV (m+2) 0 K H [] 0 0 (by omega) (by omega) f0 hv rfl Wz.nil (by decide) (by decide) (by simp[val,Nat.mod_one]);rw[Zg k]at Q;have hY:val N<4294967296^(m+2):=by have:=WW b9;rwa[b8]at this
 have a7:U / 4294967296^(m+2)%4294967296=z:=by rw[l,Zg (Uy S)]
 have e9:dg 1 (U / 4294967296^(m+2))++f=z::f:=by
  show U / 4294967296^(m+2)%4294967296::f=_;rw[a7]
 rw[e9]at b1;have d4:(a++N).length=j+(m+2):=by rw[Zk,e,b8]
 have s1:Xe .i64 (.ofNat (m+2)-.ofNat 1)=.ofNat (m+1):=by rw[Wj (by omega) (by omega)];rfl
 have n1:m+1<m+2:=by omega
 have n2:m+1<m+3:=by omega
 have n3:m+2<m+3:=by omega
 have w1:=X2 c0;have w2:=X2 a9;have w3:=X2 O;have f1:z%18446744073709551616=z:=Zg (by omega);have f2:Z%18446744073709551616=Z:=Zg (by omega);have f3:(w+1)%18446744073709551616=w+1:=Zg (by omega);have o1:=eV a0;have o2:=qZ a0 d8;rw[<-u]at o2;have o3:Tz .u64 (.ofNat d) (.ofNat (w+1))=some (.p (.int .u64 (.ofNat I))):=by
  show some (DL.p (.int .u64 (Xe .u64 (.ofNat (d / (w+1))))))=_;rw[<-J,wrap_u64,Zg (by omega)]
 have o4:U8 .u64 (.ofNat d) (.ofNat (w+1))=some (.p (.int .u64 (.ofNat r0))):=by rw[A];rfl
 have w4:=X2 (OF (a++N) f z d4);obtain⟨d1,k1,p1⟩:∃d1,Xe .u64 (.ofNat z-.ofNat c)=.ofNat d1/\d1=(z+(18446744073709551616-c))%18446744073709551616:=⟨_,Ot (by omega),rfl⟩;obtain⟨o,k2,p2⟩:∃o,Xe .u64 (.ofNat d1-.ofNat b)=.ofNat o/\o=(d1+(18446744073709551616-b))%18446744073709551616:=⟨_,Ot (by omega),rfl⟩;have d7:(a++N++z::f).set (j+(m+2)) (o%4294967296)=a++N++[o%4294967296]++f:=OE _ _ _ _ d4;rcases Yj q (U / V+1)with hcase|hcase
 ·
  have y:q=U / V:=by omega
  obtain⟨r1,r2⟩:=DD L k Q hY y;rw[<-l]at r1;have r:o=0:=by omega
  have G:a++N++[o%4294967296]++f=a++(dg (m+3) (U%V)++f):=by
   rw[r,fc (YI (ZY U L) k),<-r2,<-Tx b9 b8 rfl];simp
  have hz:(o / 9223372036854775808=0)=True:=by rw[r];simp
  have X:q%4294967296=U / V:=by rw[Zg bq];exact y
  clear p1 p2 r t M n s u g v F l C D J A r1 r2 W;obtain⟨cE,lK,oD,oS,oR,dS,dD,e1,e2,e3,e4,e5,e6,e7,hL,R⟩:=T6;rw[<-e2]at a1 b1;simp only[Tl,R,Vm,Xq,reduceIte,Nat.reduceEqDiff,Nat.reduceLeDiff,Nat.reduceAdd,Zt,x192,Y,hv,s1,n1,n2,n3,w1,w2,w3,w4,f1,f2,f3,o1,o2,o3,o4,a1,a2,a3,a4,a5,b1,b2,b3,b4,b5,b6,b7,k1,k2,QS Y,List.set_set,WH,d7,G,hz,X]
 ·
  have y:q=U / V+1:=by omega
  obtain⟨r1,r2⟩:=zB L k Q hY y;rw[<-l]at r1;have r:o=18446744073709551615:=by omega
  have hz:(o / 9223372036854775808=0)=False:=by rw[r];simp
  have f4:(H.set iu ⟨false,0,1,Wi (a++N++[o%4294967296]++f),false,tu⟩)[iu]? =some ⟨false,0,1,Wi (a++[]++(N.drop 0++(o%4294967296::f))),false,tu⟩:=by
   rw[QS Y];simp
  obtain⟨T3,zl,c3,c1,⟨c2,c4,c5,c6⟩,c7,c8,c9,c10⟩:=nv (E:=E) (K:=K) (q:=q) T e (show m+2<1000000000000 by omega) b8 b9 hV (m+2) 0 K (H.set iu ⟨false,0,1,Wi (a++N++[o%4294967296]++f),false,tu⟩) [] 0 (by omega) (by omega) f4 (bp T hv) rfl Wz.nil (by decide) (by simp[val,Nat.mod_one]);rw[Zg k,r2]at c10;have hZ:val zl<4294967296^(m+2):=by have:=WW c8;rwa[c7]at this
  have hR:=ZY U L;have a8:c3=1:=by
   rcases Yj c3 1 with h|h
   ·have h0:c3=0:=by omega
    rw[h0,Y4,Yk]at c10;rw[c10]at hZ;exact absurd hZ (Nat.not_lt.2 (Nat.le_add_left ..))
   ·omega
  have f5:val zl=U%V:=by rw[a8,ZZ]at c10;exact Nat.add_right_cancel c10
  rw[List.set_set]at c1;have P:(a++zl).length=j+(m+2):=by rw[Zk,e,c7]
  have w5:=X2 (OF (a++zl) f (o%4294967296) P);have f6:∀x,(a++zl++o%4294967296::f).set (j+(m+2)) x=a++zl++[x]++f:=fun x=>OE _ _ _ _ P
  have d6:(o%4294967296+c3%4294967296)%4294967296=0:=by rw[r,a8]
  have G:a++zl++[0]++f=a++(dg (m+3) (U%V)++f):=by
   rw[fc (YI hR k),<-f5,<-Tx c8 c7 rfl];simp
  have d5:U / V<4294967296:=by rw[y]at bq;exact Nat.lt_of_succ_lt bq
  have k3:Xe .u64 (.ofNat q-.ofNat 1)=.ofNat (U / V):=by
   rw[y,TM (Nat.le_add_left ..),wrap_u64,Yl,Zg (YI d5 (by decide))]
  have X:U / V%4294967296=U / V:=Zg d5;clear p1 p2 r t M n s u g v F l C D J A r1 r2 W;obtain⟨cE,lK,oD,oS,oR,dS,dD,e1,e2,e3,e4,e5,e6,e7,hL,R⟩:=T6;rw[<-e2]at a1 b1 c1;simp only[Tl,R,Vm,Xq,reduceIte,Nat.reduceEqDiff,Nat.reduceLeDiff,Nat.reduceAdd,Zt,x192,Y,hv,s1,n1,n2,n3,w1,w2,w3,w4,f1,f2,f3,o1,o2,o3,o4,a1,a2,a3,a4,a5,b1,b2,b3,b4,b5,b6,b7,k1,k2,QS Y,List.set_set,WH,d7,hz,c1,c2,c4,c5,c6,w5,f6,d6,G,k3,X]
end Go.Proofs.YtidginchkjhobaaGreat
namespace Go.Num
def nU:Nat->List Nat->Bool
 |_,[]=>true
 |i,b::bs=>Nat.ble 1 b&&Nat.ble b 8&&Nat.ble (2^(b-1)) i&&Nat.blt i (2^b)&&nU (i+1) bs
theorem jo:∀{a:List Nat} {i k:Nat},nU i a=true->k<a.length->∃b,a[k]? =some b/\1<=b/\b<=8/\2^(b-1)<=i+k/\i+k<2^b
 |[],_,_,_,hk=>by simp at hk
 |b::a,i,0,h,_=>by
  simp only[nU,Zs,Go.Ev.uv,Go.Ev.aL,decide_eq_true_eq]at h;exact⟨b,rfl,h.1.1.1.1,h.1.1.1.2,h.1.1.2,h.1.2⟩
 |b::a,i,k+1,h,hk=>by
  simp only[nU,Zs]at h;obtain⟨c,d,e⟩:=jo (k:=k) h.2 (by simpa using hk);exact⟨c,d,by rw[show i+(k+1)=i+1+k by omega];exact e⟩
theorem OG {i:Nat}(h0:0<i)(h:i<256):∃b,(0::1::2::2::3::3::3::3::4::4::4::4::4::4::4::4::5::5::5::5::5::5::5::5::5::5::5::5::5::5::5::5::6::6::6::6::6::6::6::6::6::6::6::6::6::6::6::6::6::6::6::6::6::6::6::6::6::6::6::6::6::6::6::6::7::7::7::7::7::7::7::7::7::7::7::7::7::7::7::7::7::7::7::7::7::7::7::7::7::7::7::7::7::7::7::7::7::7::7::7::7::7::7::7::7::7::7::7::7::7::7::7::7::7::7::7::7::7::7::7::7::7::7::7::7::7::7::7::8::8::8::8::8::8::8::8::8::8::8::8::8::8::8::8::8::8::8::8::8::8::8::8::8::8::8::8::8::8::8::8::8::8::8::8::8::8::8::8::8::8::8::8::8::8::8::8::8::8::8::8::8::8::8::8::8::8::8::8::8::8::8::8::8::8::8::8::8::8::8::8::8::8::8::8::8::8::8::8::8::8::8::8::8::8::8::8::8::8::8::8::8::8::8::8::8::8::8::8::8::8::8::8::8::8::8::8::8::8::8::8::8::8::8::8::8::8::8::8::8::8::8::8::8::8::8::8::[])[i]? =some b/\1<=b/\b<=8/\2^(b-1)<=i/\i<2^b:=by
 obtain⟨k,rfl⟩:∃k,i=k+1:=⟨i-1,by omega⟩;generalize a:(1::2::2::3::3::3::3::4::4::4::4::4::4::4::4::5::5::5::5::5::5::5::5::5::5::5::5::5::5::5::5::6::6::6::6::6::6::6::6::6::6::6::6::6::6::6::6::6::6::6::6::6::6::6::6::6::6::6::6::6::6::6::6::7::7::7::7::7::7::7::7::7::7::7::7::7::7::7::7::7::7::7::7::7::7::7::7::7::7::7::7::7::7::7::7::7::7::7::7::7::7::7::7::7::7::7::7::7::7::7::7::7::7::7::7::7::7::7::7::7::7::7::7::7::7::7::7::8::8::8::8::8::8::8::8::8::8::8::8::8::8::8::8::8::8::8::8::8::8::8::8::8::8::8::8::8::8::8::8::8::8::8::8::8::8::8::8::8::8::8::8::8::8::8::8::8::8::8::8::8::8::8::8::8::8::8::8::8::8::8::8::8::8::8::8::8::8::8::8::8::8::8::8::8::8::8::8::8::8::8::8::8::8::8::8::8::8::8::8::8::8::8::8::8::8::8::8::8::8::8::8::8::8::8::8::8::8::8::8::8::8::8::8::8::8::8::8::8::8::8::8::8::8::8::8::[])=L;have l:L.length=255:=by subst a;rfl
 have j:nU 1 L=true:=by subst a;rfl
 obtain⟨b,c,d,e,f,g⟩:=jo (k:=k) j (by omega);exact⟨b,by simpa using c,d,e,by rw[Y1];exact f,by rw[Y1];exact g⟩
theorem ry {w k b:Nat}(g:1<=b)(d:2^(b-1)<=w / 2^k)(e:w / 2^k<2^b):2^(k+b-1)<=w/\w<2^(k+b):=by
 have f:0<2^k:=YL (by decide);obtain⟨a,c⟩:=Ty w _ f;constructor
 ·rw[show k+b-1=(b-1)+k by omega,Y2];exact Zy (Zp _ d) a
 ·rw[Y1,Y2];exact Z2 c (Zp _ e)
end Go.Num
namespace Go.Proofs.YtidginchkjhobaaGreat
open Go.Ev Go.Num
theorem vX {B:Xs}(f:Std B){w:Nat}(h0:0<w)(I:w<4294967296):∃l,1<=l/\l<=32/\2^(l-1)<=w/\w<2^l/\Xx B 206 [.one (.int .u32 (.ofNat w))] (.one (.int .i64 (.ofNat l))):=by
 have z:∀(E:Xa) C,XK E .Th C=false:=fun _ _=>rfl
 have A:∀(E:Xa) (b:Nat) (C:List DV) (h:HF) (n:Nat),X8 E b .Th C h n=VR C:=fun _ _ _ _ _=>rfl
 have G:∀a,Qb .u32 (.ofNat a) (.ofNat 16)=some (.p (.int .u32 (.ofNat (a / 65536)))):=fun _=>rfl
 have H:∀a,Qb .u32 (.ofNat a) (.ofNat 8)=some (.p (.int .u32 (.ofNat (a / 256)))):=fun _=>rfl
 by_cases y:65536<=w
 ·by_cases u:256<=w / 65536
  ·have e:w / 65536 / 256=w / 16777216:=by omega
   obtain⟨b,q,s,D,c,d⟩:=OG (i:=w / 65536 / 256) (by omega) (by omega);rw[e]at c d;obtain⟨g,j⟩:=ry (w:=w) (k:=24) s c d;have m:Xe .i64 (.ofNat b)=.ofNat b:=wrap_i64 (by omega);have t:Xe .i64 (.ofNat (24+b))=.ofNat (24+b):=by first |exact wrap_i64 (by omega)|(rw[Z8];exact wrap_i64 (by omega))
   have o:Xe .u8 (.ofNat (w / 65536 / 256))=.ofNat (w / 65536 / 256):=wrap_u8 (by omega);have v:Xe .i64 (.ofNat 24)=.ofNat 24:=rfl;have x:Xe .i64 (.ofNat 8)=.ofNat 8:=rfl;have F:Xe .i64 (.ofNat 16)=.ofNat 16:=rfl;refine⟨24+b,by omega,by omega,g,j,Xx.of (f.Wa _ _ rfl) (f.Xj.mono fun E K r=> ?_)⟩;simp only[Xm,Xq,z,A,reduceIte,Nat.reduceEqDiff,Nat.reduceLeDiff,Nat.reduceAdd,x206,y,u,G,H,bR q,m,t,o,v]
  ·obtain⟨b,q,s,D,c,d⟩:=OG (i:=w / 65536) (by omega) (by omega);obtain⟨g,j⟩:=ry (w:=w) (k:=16) s c d;have m:Xe .i64 (.ofNat b)=.ofNat b:=wrap_i64 (by omega);have t:Xe .i64 (.ofNat (16+b))=.ofNat (16+b):=by first |exact wrap_i64 (by omega)|(rw[Z8];exact wrap_i64 (by omega))
   have o:Xe .u8 (.ofNat (w / 65536))=.ofNat (w / 65536):=wrap_u8 (by omega);have v:Xe .i64 (.ofNat 24)=.ofNat 24:=rfl;have x:Xe .i64 (.ofNat 8)=.ofNat 8:=rfl;have F:Xe .i64 (.ofNat 16)=.ofNat 16:=rfl;refine⟨16+b,by omega,by omega,g,j,Xx.of (f.Wa _ _ rfl) (f.Xj.mono fun E K r=> ?_)⟩;simp only[Xm,Xq,z,A,reduceIte,Nat.reduceEqDiff,Nat.reduceLeDiff,x206,y,u,G,bR q,m,t,o]
 ·by_cases u:256<=w
  ·obtain⟨b,q,s,D,c,d⟩:=OG (i:=w / 256) (by omega) (by omega);obtain⟨g,j⟩:=ry (w:=w) (k:=8) s c d;have m:Xe .i64 (.ofNat b)=.ofNat b:=wrap_i64 (by omega);have t:Xe .i64 (.ofNat (8+b))=.ofNat (8+b):=by first |exact wrap_i64 (by omega)|(rw[Z8];exact wrap_i64 (by omega))
   have o:Xe .u8 (.ofNat (w / 256))=.ofNat (w / 256):=wrap_u8 (by omega);have v:Xe .i64 (.ofNat 24)=.ofNat 24:=rfl;have x:Xe .i64 (.ofNat 8)=.ofNat 8:=rfl;have F:Xe .i64 (.ofNat 16)=.ofNat 16:=rfl;refine⟨8+b,by omega,by omega,g,j,Xx.of (f.Wa _ _ rfl) (f.Xj.mono fun E K r=> ?_)⟩;simp only[Xm,Xq,z,A,reduceIte,Nat.reduceEqDiff,Nat.reduceLeDiff,x206,y,u,H,bR q,m,t,o,x]
  ·obtain⟨b,q,s,D,c,d⟩:=OG (i:=w) (by omega) (by omega);have g:2^(b-1)<=w:=c;have j:w<2^b:=d;have m:Xe .i64 (.ofNat b)=.ofNat b:=wrap_i64 (by omega);have t:Xe .i64 (.ofNat (0+b))=.ofNat (b):=by first |exact wrap_i64 (by omega)|(rw[Z8];exact wrap_i64 (by omega))
   have o:Xe .u8 (.ofNat (w))=.ofNat (w):=wrap_u8 (by omega);have v:Xe .i64 (.ofNat 24)=.ofNat 24:=rfl;have x:Xe .i64 (.ofNat 8)=.ofNat 8:=rfl;have F:Xe .i64 (.ofNat 16)=.ofNat 16:=rfl;refine⟨b,by omega,by omega,g,j,Xx.of (f.Wa _ _ rfl) (f.Xj.mono fun E K r=> ?_)⟩;simp only[Xm,Xq,z,A,reduceIte,Nat.reduceEqDiff,Nat.reduceLeDiff,x206,y,u,bR q,m,o]
theorem Dt {B:Xs}(a:Std B){w:Nat}(h0:0<w)(i:w<4294967296):∃l,1<=l/\l<=32/\2^(l-1)<=w/\w<2^l/\Xx B 190 [.one (.int .u32 (.ofNat w))] (.one (.int .i64 (.ofNat (32-l)))):=by
 obtain⟨l,e,c,f,g,h⟩:=vX a h0 i;refine⟨l,e,c,f,g,Xx.of (a.Wa _ _ rfl) ((h.Xj.and a.Xj).mono fun E K ⟨e1,b⟩=> ?_)⟩;have d:Xe .i64 (.ofNat 32-.ofNat l)=.ofNat (32-l):=Wj c (by decide);simp only[Xm,Xq,reduceIte,Nat.reduceEqDiff,Nat.reduceLeDiff,x190,b,X5,e1,d]
end Go.Proofs.YtidginchkjhobaaGreat
namespace Go.Num
theorem By {y n l w:Nat}(h:1<=l)(o:l<=32)(j:w=y / 4294967296^n)(f:2^(l-1)<=w)(g:w<2^l):qa (y*2^(32-l)) (n+1):=by
 obtain⟨a,b⟩:=Ty y _ (Sh n);rw[<-j]at a b;have e1:2^(l-1)*2^(32-l)=2147483648:=by
  rw[<-Y2,show l-1+(32-l)=31 by omega]
 have e2:2^l*2^(32-l)=4294967296:=by
  rw[<-Y2,show l+(32-l)=32 by omega]
 have i:0<2^(32-l):=YL (by decide);have d:2147483648<=w*2^(32-l):=by rw[<-e1];exact Zp _ f
 have e:(w+1)*2^(32-l)<=4294967296:=by rw[<-e2];exact Zp _ g
 generalize 2^(32-l)=z at *;generalize c:4294967296^n=P at *;constructor
 ·rw[ZK,c];have:=Zp z a;have k:=Zp P d;rw[YX]at k;have m:2*(y*z)=y*z+y*z:=by omega
  omega
 ·rw[ZK,c];have:=Yu b i;have k:=Zp P e;rw[YX]at k;rw[ZH P];exact Z2 this k
theorem mR {n y:Nat}(h:(Xd y).length=n+1):(Xd y)[n]? =some (y / 4294967296^n)/\0<y / 4294967296^n/\y / 4294967296^n<4294967296/\4294967296^n<=y:=by
 have e:Xd y=dg (n+1) y:=Tx (Xo y) h (Xl y);have a:=QF (W0 y) (by omega);rw[Xl,h,Yl]at a;have c:y<4294967296^(n+1):=by have:=Te y;rwa[h]at this
 have b:=Uy c;refine⟨?_,Nat.div_pos a (Sh n),b,a⟩;rw[e,bT (by omega),Zg b]
theorem bN {X V L N n j:Nat}(c:L=j+((n+1)+(N-j)))(e:0<V)(a:V<4294967296^n):
  dg L (X%(V*4294967296^(j+1)))=dg j (X%(V*4294967296^(j+1)))++(dg (n+1) (X%(V*4294967296^(j+1)) / 4294967296^j)++List.replicate (N-j) 0)/\
  dg L (X%(V*4294967296^j))=dg j (X%(V*4294967296^(j+1)))++(dg (n+1) (X%(V*4294967296^(j+1)) / 4294967296^j%V)++List.replicate (N-j) 0)/\
  X%(V*4294967296^(j+1)) / 4294967296^j<V*4294967296:=by
 have i:=Sh j;have h:V*4294967296^j ∣ V*4294967296^(j+1):=Nat.mul_dvd_mul_left V (by rw[ZK];exact Nat.dvd_mul_right ..);have e1:X%(V*4294967296^j)=X%(V*4294967296^(j+1))%(V*4294967296^j):=(Nat.mod_mod_of_dvd X h).symm;have f:X%(V*4294967296^(j+1))<V*4294967296^(j+1):=ZY _ (Yn e (Sh _));rw[e1];generalize X%(V*4294967296^(j+1))=Z at *;have d:Z / 4294967296^j<V*4294967296:=Yp (by rw[ZK]at f;rw[Nat.mul_left_comm];exact f);have b:Z / 4294967296^j<4294967296^(n+1):=by
  have:=Yu a (show 0<4294967296 by decide);rw[<-ZK]at this;exact YI d this
 have e2:Z%(V*4294967296^j) / 4294967296^j=Z / 4294967296^j%V:=by rw[ZH V,Nat.mod_mul_right_div_self]
 have g:dg j (Z%(V*4294967296^j))=dg j Z:=um (Nat.mod_mod_of_dvd Z (Nat.dvd_mul_left ..));refine⟨?_,?_,d⟩
 ·rw[c,TE,TE,YY b,lR]
 ·rw[c,TE,TE,e2,g,YY (YI (ZY _ e) (YI a (Y5 (by decide) (Nat.lt_succ_self n)))),lR]
theorem jf {X V N j:Nat}(a:j<=N):X%(V*4294967296^(j+1)) / 4294967296^j / V::dg (N-j) (X / (V*4294967296^(j+1)))=dg (N+1-j) (X / (V*4294967296^j)):=by
 rw[show N+1-j=(N-j)+1 by omega,dg,Nat.div_div_eq_div_mul,Nat.div_div_eq_div_mul,ZK,<-Yi,ZH (4294967296^j) V,Nat.mod_mul_right_div_self]
end Go.Num
namespace Go.Proofs.YtidginchkjhobaaGreat
open Go.Ev Go.Num
theorem Ou {d id XX c a l u:Nat}{h:HF}{b:Xz}(g:h id=some b)(e:l<=u)(f:u<=a)(i:b.sz=d):WI d h (.own id XX c a) l (some u)=some (.own id XX (c+l) (u-l),[id]):=by
 simp only[WI,g,Option.getD_some,RK e,RK f,Bool.true_or,YF,pL i,cond_true]
def mv (X V L n N i:Nat):List Xz:=[⟨false,0,1,Wi (dg L (X%(V*4294967296^i))),false,177⟩,⟨false,0,1,Wi (dg (n+1) V),false,177⟩,⟨false,0,1,Wi (List.replicate i 0++dg (N+1-i) (X / (V*4294967296^i))),false,177⟩]
theorem uj {E:Xa}{K:Nat}{X V L m N s:Nat}(M:L=N+(m+3))(O:N<100000000000)(S:m<100000000000)(e:E.mode=md)(P:qa V (m+2))(g:0<V)
  (n:∀j,j<N+1->E.heap 192 [.one (.own 0 0 j (m+3)),.one (.own 1 0 0 (m+2))] (mv X V L (m+2) N (j+1))=some (.one (.p (.int .u32 (.ofNat (X%(V*4294967296^(j+1)) / 4294967296^j / V)))),(mv X V L (m+2) N (j+1)).set 0 ⟨false,0,1,Wi (dg L (X%(V*4294967296^j))),false,177⟩)):
  ∀(i:Nat),i<=N+1->∀k,i<k->∃c,Xb E K 0 [8,9,10,11,12,13] x178_1 k ⟨[(8,.one (.p (.int .i64 (.ofNat (m+2))))),(9,.one (.p (.int .i64 (.ofNat s)))),(10,.one (.own 0 0 0 L)),(11,.one (.own 1 0 0 (m+2))),(12,.one (.own 2 0 0 (N+1))),(13,.one (.p (.int .i64 (pI i))))],mv X V L (m+2) N i⟩=some (.exit 0,⟨c,mv X V L (m+2) N 0⟩)/\
   Xh c 8=some (.one (.p (.int .i64 (.ofNat (m+2)))))/\Xh c 9=some (.one (.p (.int .i64 (.ofNat s))))/\Xh c 10=some (.one (.own 0 0 0 L))/\Xh c 12=some (.one (.own 2 0 0 (N+1)))
 |_,_,0,h=>by omega
 |0,_,k+1,_=>by
  apply VE
  ·obtain⟨o,T,U,Y,W,r,q,e1,e2,t,u,v,w,x,d,R⟩:=T6;rw[<-e2,d];simp only[Tl,R,Xq,reduceIte,Nat.reduceEqDiff,x178_1,dU];rfl
  ·simp only[Xm,reduceIte,Nat.reduceEqDiff,and_self]
 |j+1,hj,k+1,hk=>by
  obtain⟨c,l,J⟩:=uj M O S e P g n j (by omega) k (by omega);refine⟨c,?_,J⟩;have f:=n j (by omega);obtain⟨Q,y⟩:∃Q,Q=X%(V*4294967296^(j+1)) / 4294967296^j / V:=⟨_,rfl⟩;have a:=jf (X:=X) (V:=V) (N:=N) (j:=j) (by omega);rw[<-y]at f a;have z:Xe .i64 (.ofNat (j+(m+2)))=.ofNat (j+(m+2)):=wrap_i64 (by omega);have A:Xe .i64 (.ofNat (j+(m+2)+1))=.ofNat (j+(m+2)+1):=wrap_i64 (by omega);have B:Xe .i64 (.ofNat j-.ofNat 1)=pI j:=Uk (by omega);have C:WI 1 (Xn (mv X V L (m+2) N (j+1))) (.own 0 0 0 L) j (some (j+(m+2)+1))=some (.own 0 0 j (m+3),[0]):=by
   rw[Ou (b:=⟨false,0,1,Wi (dg L (X%(V*4294967296^(j+1)))),false,177⟩) rfl (by omega) (by omega) rfl,Z8,show j+(m+2)+1-j=m+3 by omega]
  have F:((mv X V L (m+2) N (j+1)).set 0 ⟨false,0,1,Wi (dg L (X%(V*4294967296^j))),false,177⟩)[2]? =some ⟨false,0,1,Wi (List.replicate (j+1) 0++dg (N-j) (X / (V*4294967296^(j+1)))),false,177⟩:=by
   show some (Xz.mk false 0 1 (Wi (List.replicate (j+1) 0++dg (N+1-(j+1)) (X / (V*4294967296^(j+1))))) false 177)=_;rw[Nat.add_sub_add_right]
  have G:=X2 (ea 0 j (dg (N-j) (X / (V*4294967296^(j+1)))));have H:((mv X V L (m+2) N (j+1)).set 0 ⟨false,0,1,Wi (dg L (X%(V*4294967296^j))),false,177⟩).set 2 ⟨false,0,1,Wi (List.replicate j 0++dg (N+1-j) (X / (V*4294967296^j))),false,177⟩=mv X V L (m+2) N j:=rfl;have I:j<N+1:=by omega
  generalize mv X V L (m+2) N (j+1)=D at *;generalize (D.set 0 ⟨false,0,1,Wi (dg L (X%(V*4294967296^j))),false,177⟩)=D1 at *;generalize mv X V L (m+2) N j=D2 at *;generalize mv X V L (m+2) N 0=D3 at *;generalize dg (N-j) (X / (V*4294967296^(j+1)))=l1 at *;generalize dg (N+1-j) (X / (V*4294967296^j))=l2 at *;obtain⟨o,T,U,Y,W,r,q,e1,e2,t,u,v,w,x,d,R⟩:=T6;rw[<-e2]at l⊢;rw[d];simp only[Tl,R,Vm,Xq,reduceIte,Nat.reduceEqDiff,Nat.reduceLeDiff,Zt,x178_1,ah,e,X5,f,z,A,B,C,F,G,I,WH,Ov,a,H];exact l
theorem eE {B:Xs}(c:Std B){l:PL}{x:Nat}(s:aV l x)(d:(Xd x).length<9223372036854775808):∃r,Xx B 175 [.one l] (.one r)/\aV r x:=by
 obtain⟨r,b,a⟩:=mO c s d;rw[UH (Xo x) (Xl x)]at a;exact⟨r,b,a⟩
theorem gD {B:Xs}(a:Std B){la lb:PL}{x y:Nat}(k:aV la x)(e:aV lb y)(hx:(Xd x).length<100000000000)(hy:(Xd y).length<100000000000)(F:0<y):
  ∃q r,Xx B 178 [.one la,.one lb] (.XZ [.one q,.one r])/\aV q (x / y)/\aV r (x%y):=by
 obtain⟨ra,ta,k⟩:=eE a k (by omega);obtain⟨rb,tb,e⟩:=eE a e (by omega);have J:=dt a k e (Xo _) (Xo _) (W0 _) (W0 _) (by omega) (by omega);rw[Xl,Xl]at J;by_cases b:x<y
 ·obtain⟨r,I,h2⟩:=OP a k (by omega);refine⟨.XC,r,Xx.of (a.Wa _ _ rfl) ((ta.Xj.and (tb.Xj.and (J.Xj.and (I.Xj.and a.Xj)))).mono fun E K ⟨e1,e2,u,v,c⟩=> ?_),?_,?_⟩
  ·simp only[Xm,Xq,reduceIte,Nat.reduceEqDiff,Nat.reduceLeDiff,x178,c,X5,e1,e2,u,v,SQ,b]
  ·rw[YY b];exact aV.zero
  ·rw[Zg b];exact h2
 by_cases I:(Xd y).length=1
 ·obtain⟨Z,M⟩:=Sb.1 I;have hi:(Xd y)[0]? =some y:=by rw[Px Z M];rfl
  have hd:=zY a k (Xo _) (by omega) Z M;rw[Xl]at hd;have a5:=ZY x F;have hw:=aX a (m:=x%y) (by omega);have Q:y%18446744073709551616=y:=Zg (by omega);refine⟨_,_,Xx.of (a.Wa _ _ rfl) ((ta.Xj.and (tb.Xj.and (J.Xj.and (hd.Xj.and (hw.Xj.and a.Xj))))).mono fun E K ⟨e1,e2,u,v,O,c⟩=> ?_),.Xp,.Xp⟩;simp only[Xm,Xq,reduceIte,Nat.reduceEqDiff,Nat.reduceLeDiff,x178,c,X5,e1,e2,u,v,O,SQ,b,e.len,I,e.idx hi,Q]
 have a8:2<=(Xd y).length:=by
  have :(Xd y).length≠0:=by rw[Ne,WV];omega
  omega
 obtain⟨m,U⟩:∃m,(Xd y).length=m+2:=⟨(Xd y).length-2,by omega⟩;obtain⟨t1,t2,t3,t4⟩:=mR (n:=m+1) U;obtain⟨w,ew⟩:∃w,w=y / 4294967296^(m+1):=⟨_,rfl⟩;rw[<-ew]at t1 t2 t3;obtain⟨l,l1,l2,l3,l4,l5⟩:=Dt a t2 t3;obtain⟨s,es⟩:∃s,s=32-l:=⟨_,rfl⟩;have Y:s<32:=by omega
 have t:=By l1 l2 ew l3 l4;rw[<-es]at t l5;have a7:=XM (Nat.le_of_not_lt b);obtain⟨N,P⟩:∃N,(Xd x).length=N+(m+2):=⟨(Xd x).length-(m+2),by omega⟩;have d:0<2^s:=YL (by decide);obtain⟨V,A⟩:∃V,V=y*2^s:=⟨_,rfl⟩;obtain⟨X,G⟩:∃X,X=x*2^s:=⟨_,rfl⟩;have f:0<V:=by rw[A];exact Yn F d
 rw[<-A]at t;have g:=t.2;have a0:V<4294967296^(m+2+1):=YI g (Y5 (by decide) (Nat.lt_succ_self _));have C:X<V*4294967296^(N+1):=by
  have a1:=Te x;rw[P]at a1;have a2:2^s<=2^31:=Nat.pow_le_pow_right (by decide) (by omega);have a3:X<4294967296^(N+(m+2))*2147483648:=by
   rw[G];exact Z2 (Yu a1 d) (Z9 _ a2)
  have a4:=Zp (4294967296^(N+1)) t.1;rw[<-Y2,show m+2+(N+1)=(N+(m+2))+1 by omega,ZK,Yi]at a4;generalize 4294967296^(N+(m+2))=p at *;generalize V*4294967296^(N+1)=z at *;omega
 have D:X / V=x / y:=by rw[G,A,Nat.mul_div_mul_right _ _ d]
 have W:X%V / 2^s=x%y:=by rw[G,A,Nat.mul_mod_mul_right,Nat.mul_div_cancel _ d]
 have S:X%V<4294967296^(m+2):=YI (ZY _ f) g;have c1:=sT a k (Xo _) (by omega) Y [];rw[Xl,<-G,P,Zu,ZF]at c1;have c2:=sT a e (Xo _) (by omega) Y [⟨false,0,1,Wi (dg (N+(m+2)+1) X),false,177⟩];rw[Xl,<-A,U,ZR,Z5]at c2;have c3:X1 B fun E _=>∀j,j<N+1->E.heap 192 [.one (.own 0 0 j (m+3)),.one (.own 1 0 0 (m+2))] (mv X V (N+(m+3)) (m+2) N (j+1))=some (.one (.p (.int .u32 (.ofNat (X%(V*4294967296^(j+1)) / 4294967296^j / V)))),(mv X V (N+(m+3)) (m+2) N (j+1)).set 0 ⟨false,0,1,Wi (dg (N+(m+3)) (X%(V*4294967296^j))),false,177⟩):=by
  refine X1.all (N+1) fun j hj=> ?_
  obtain⟨s1,s2,s3⟩:=bN (X:=X) (V:=V) (L:=N+(m+3)) (N:=N) (n:=m+2) (j:=j) (by omega) f g;rw[s2];refine(Df a (H:=mv X V (N+(m+3)) (m+2) N (j+1)) (iu:=0) (iv:=1) (tu:=177) (tv:=177) (Vw:=dg (m+2+1) V) (by decide) (X9 _ _) (by omega) t s3 (fun i hi=>bT (by omega)) ?_ rfl).Xj;show some (Xz.mk false 0 1 (Wi (dg (N+(m+3)) (X%(V*4294967296^(j+1))))) false 177)=_;rw[s1]
 have c4:=SJ a (ws:=dg (N+1) (X / V)) (by rw[X9];omega);rw[TJ (Yp C),D]at c4;have c5:=AV a (la:=.Xp (Ub (dg (m+2) (X%V)))) .Xp (gG _ _) (by rw[X9];omega) Y;rw[kr S,W]at c5;refine⟨_,_,Xx.of (a.Wa _ _ rfl) ((ta.Xj.and (tb.Xj.and (J.Xj.and (l5.Xj.and (c1.Xj.and (c2.Xj.and (c3.and (c4.Xj.and (c5.Xj.and (a.Xj.and (X1.ge (N+2)))))))))))).mono fun E K ⟨e1,e2,u,v,O,e6,e7,e8,e9,c,hK⟩=> ?_),.Xp,.Xp⟩;obtain⟨T',o,g2,g3,g4,g5⟩:=uj (K:=K) (s:=s) rfl (by omega) (by omega) c t f e7 (N+1) (Zh _) K (by omega);have d1:mv X V (N+(m+3)) (m+2) N (N+1)=[⟨false,0,1,Wi (dg (N+(m+2)+1) X),false,177⟩,⟨false,0,1,Wi (dg (m+2+1) V),false,177⟩,⟨false,0,1,Wi (List.replicate (N+1) 0),false,177⟩]:=by
  unfold mv;rw[Zg C,YV,show dg 0 (X / (V*4294967296^(N+1)))=[]from rfl,ZS];rfl
 have d2:mv X V (N+(m+3)) (m+2) N 0=[⟨false,0,1,Wi (dg (N+(m+3)) (X%V)),false,177⟩,⟨false,0,1,Wi (dg (m+2+1) V),false,177⟩,⟨false,0,1,Wi (dg (N+1) (X / V)),false,177⟩]:=by
  unfold mv;rw[Nat.pow_zero,ZX];rfl
 rw[d1,d2]at o;have Q:Xe .i64 (.ofNat (m+2)-.ofNat 1)=.ofNat (m+1):=by rw[Wj (by omega) (by omega)];rfl
 have f2:Xe .i64 (.ofNat (N+(m+2))-.ofNat (m+2))=.ofNat N:=by rw[Wj (by omega) (by omega),Yl]
 have f3:Xe .i64 (.ofNat (N+1))=.ofNat (N+1):=wrap_i64 (by omega);have f4:4*(N+1)<=lim:=by unfold lim;omega
 have f5:N+1<=9223372036854775807:=by omega
 have f6:(Int.ofNat N:Int)=pI (N+1):=rfl;have n1:¬m+2=1:=by omega
 have n2:m+2<=m+2+1:=by omega
 have n3:m+2<=N+(m+3):=by omega
 have f7:∀h:HF,h 1=some ⟨false,0,1,Wi (dg (m+2+1) V),false,177⟩->WI 1 h (.own 1 0 0 (m+2+1)) 0 (some (m+2))=some (.own 1 0 0 (m+2),[1]):=fun h T=>by
  rw[Ou T (by omega) (by omega) rfl];rfl
 have f8:∀h:HF,h 0=some ⟨false,0,1,Wi (dg (N+(m+3)) (X%V)),false,177⟩->WI 1 h (.own 0 0 0 (N+(m+3))) 0 (some (m+2))=some (.own 0 0 0 (m+2),[0]):=fun h T=>by
  rw[Ou T (by omega) (by omega) rfl];rfl
 have f9:(Wi (dg (N+(m+3)) (X%V))).take (m+2)=Wi (dg (m+2) (X%V)):=by rw[mD,AN (by omega)]
 rw[D]at o;rw[<-f6]at o;have z1:N+(m+3)=N+(m+2)+1:=rfl;rw[z1]at o f8 f9 g4 n3;obtain⟨cE,lK,oD,oS,oR,dS,dD,Z,M,k3,k4,k5,k6,k7,a6,R⟩:=T6;rw[<-M]at o;simp(decide:=true)only[Tl,R,Vm,Xq,reduceIte,Nat.reduceAdd,x178,c,X5,e1,e2,u,v,O,e6,e8,e9,SQ,b,k.len,e.len,U,P,e.idx t1,Q,f2,f3,f4,f5,f7,f8,f9,n1,n3,Zh,U0,o,g2,g3,g4,g5,Vd,X9,VX,Uf,U5 _ (Y0 (X9 (N+1) (x / y)))]
theorem oj {w:Nat}(a:w<4294967296):UB .u64 (Nat.lor (WK .u64 (.ofNat 0)) (WK .u64 (.ofNat w)))=.ofNat w:=by
 have e2:WK .u64 (.ofNat w)=w:=by show w%18446744073709551616=_;omega
 rw[e2];show Int.ofNat (0|||w)=_;rw[Nat.zero_or]
theorem Dm {a w:Nat}(b:a<4294967296)(c:w<4294967296):UB .u64 (Nat.lor (WK .u64 (.ofNat w)) (WK .u64 (.ofNat (a*4294967296))))=.ofNat (w+4294967296*a):=by
 have e:Nat.lor (WK .u64 (.ofNat w)) (WK .u64 (.ofNat (a*4294967296)))=Nat.lor (WK .u64 (.ofNat (a*4294967296))) (WK .u64 (.ofNat w)):=Nat.or_comm ..;rw[e,qZ b c,Y1,ZH]
theorem Ct {w:Nat}(a:w<4294967296):NB .u64 (.ofNat w) (.ofNat 0)=some (.p (.int .u64 (.ofNat w))):=by
 have:=CY (s:=0) a (by decide);rw[this,Nat.pow_zero,ZX]
theorem iP {B:Xs}(o:Std B){l:PL}{f:List Nat}(s:Ui l f)(d:Wz f)(V:f.length<=2):Xx B 176 [.one l] (.one (.int .u64 (.ofNat (val f)))):=by
 have x:Xe .i64 (.ofNat (32*0))=.ofNat 0:=rfl;have P:Xe .i64 (.ofNat (32*1))=.ofNat 32:=rfl;have y:Xe .i64 (.ofNat 1)=.ofNat 1:=rfl;have Q:Xe .i64 (.ofNat 2)=.ofNat 2:=rfl
 match f,V with
 |[],_=>
  refine Xx.of (o.Wa _ _ rfl) ((X1.ge 3).mono fun E K z=> ?_);obtain⟨b,rfl⟩:∃b,K=b+3:=⟨K-3,by omega⟩;have e:=s.len;obtain⟨r,L,M,O,N,u,t,C,D,F,G,H,I,J,a,R⟩:=T6;simp only[Tl,R,a,Xq,reduceIte,Nat.reduceEqDiff,Nat.reduceLeDiff,Zx,x176,x176_1,e,val]
 |[w],_=>
  refine Xx.of (o.Wa _ _ rfl) ((X1.ge 3).mono fun E K z=> ?_);obtain⟨b,rfl⟩:∃b,K=b+3:=⟨K-3,by omega⟩;have e:=s.len;have p:=fun h k=>s.idx (h:=h) (k:=k) (i:=0) (w:=w) rfl
  have c:=d.cons.1;have g:w%18446744073709551616=w:=Zg (by omega);have j:val [w]=w:=by simp[val]
  have m:=oj c;have n:=Ct c;rw[j];obtain⟨r,L,M,O,N,u,t,C,D,F,G,H,I,J,a,R⟩:=T6;simp only[Tl,R,a,Xq,reduceIte,Nat.reduceEqDiff,Nat.reduceLeDiff,Nat.reduceLT,Zx,x176,x176_1,e,p,x,y,g,m,n]
 |[w,v],_=>
  refine Xx.of (o.Wa _ _ rfl) ((X1.ge 3).mono fun E K z=> ?_);obtain⟨b,rfl⟩:∃b,K=b+3:=⟨K-3,by omega⟩;have e:=s.len;have p:=fun h k=>s.idx (h:=h) (k:=k) (i:=0) (w:=w) rfl
  have q:=fun h k=>s.idx (h:=h) (k:=k) (i:=1) (w:=v) rfl
  have c:=d.cons.1;have A:=d.cons.2.cons.1;have g:w%18446744073709551616=w:=Zg (by omega);have S:v%18446744073709551616=v:=Zg (by omega);have j:val [w,v]=w+4294967296*v:=by simp[val]
  have m:=oj c;have n:=Ct c;have T:=eV A;have U:=Dm A c;rw[j];obtain⟨r,L,M,O,N,u,t,C,D,F,G,H,I,J,a,R⟩:=T6;simp only[Tl,R,a,Xq,reduceIte,Nat.reduceEqDiff,Nat.reduceLeDiff,Nat.reduceLT,Nat.reduceAdd,Zx,x176,x176_1,e,p,q,x,P,y,Q,g,m,n,S,T,U]
theorem oX {E:Xa}{K:Nat}{p:DV}:∀(b a k:Nat) (H:List Xz),b<k->a<18446744073709551616->b<18446744073709551616->
  ∃c,Xb E K 0 [4,7,8] x153_1 k ⟨[(4,p),(7,.one (.p (.int .u64 (.ofNat a)))),(8,.one (.p (.int .u64 (.ofNat b))))],H⟩=some (.exit 2,⟨c,H⟩)/\Xh c 4=some p/\Xh c 7=some (.one (.p (.int .u64 (.ofNat (Nat.gcd a b))))):=by
 intro b;induction b using Nat.strongRecOn with
 |ind b j=>
  intro a k H t r s;obtain⟨k,rfl⟩:∃l,k=l+1:=⟨k-1,by omega⟩;cases b with
  |zero=>
   apply VE
   ·rw[Xb];simp only[Xm,Xq,reduceIte,Nat.reduceEqDiff,x153_1,Zx];rfl
   ·simp only[Xm,reduceIte,Nat.reduceEqDiff,Nat.gcd_zero_right,and_self]
  |succ b=>
   have f:a%(b+1)<b+1:=ZY _ (by omega);obtain⟨c,g,h,i⟩:=j (a%(b+1)) f (b+1) k H (by omega) (by omega) (by omega);have e:Nat.gcd a (b+1)=Nat.gcd (b+1) (a%(b+1)):=by
    rw[Nat.gcd_comm,Nat.gcd_rec];exact Nat.gcd_comm _ _
   refine⟨c,?_,h,by rw[i,e]⟩;obtain⟨n,A,B,D,C,q,o,u,m,v,w,x,y,z,d,R⟩:=T6;rw[<-m]at g⊢;rw[d];simp only[Tl,R,Xq,reduceIte,Nat.reduceEqDiff,x153_1,YP];exact g
abbrev Bb (cs:List DL):Xz:=⟨false,0,2,[cs],false,46⟩
theorem Fk {x:Nat}(h:(Xd x).length<=2):x<18446744073709551616:=by
 have:=Te x;have a:=Vj h;simp at a;omega
theorem zu {B:Xs}(i:Std B):∀(y x:Nat) (D F:PL),aV D x->aV F y->(Xd x).length<100000000000->(Xd y).length<100000000000->
  ∃(C:Bool) (r:PL) (c:List PL),aV r (Nat.gcd x y)/\Ta c (Nat.gcd x y)/\X1 B fun E K=>∀(k:Nat) (e f:Xz),y<k->
   ∃s,Xb E K 0 [4,5,6] x153_2 k ⟨[(4,.one (.ptr 2 0 0 0)),(5,.one (.p D)),(6,.one (.p F))],[e,f,Bb [.p (.bool false),.p .XC]]⟩=
    (bif C then some (.ret,⟨s,[e,f,Bb (c.map .p)]⟩)else some (.exit 0,⟨s,[e,f,Bb [.p (.bool false),.p .XC]]⟩))/\Xh s 4=some (.one (.ptr 2 0 0 0))/\(C=false->Xh s 5=some (.one (.p r))):=by
 intro y;induction y using Nat.strongRecOn with
 |ind y ih=>
  intro x D F u o hx M;obtain⟨G,J,a⟩:=Vi i false (l:=.Xp (Ub (Xd (Nat.gcd x y)))) .Xp (Xo _) (by
   rcases Yh y with h|h
   ·subst h;rw[Nat.gcd_zero_right];omega
   ·have:=XM (Nat.gcd_le_right x h);omega)
  rw[Xl]at a
  replace a:Ta G (Nat.gcd x y):=by simpa using a
  rcases Yh y with h0|h0
  ·subst h0;refine⟨false,D,G,by rw[Nat.gcd_zero_right];exact u,a,X1.of fun K n k e f S=> ?_⟩;obtain⟨k,rfl⟩:∃w,k=w+1:=⟨k-1,by omega⟩;have g:=o.len;rw[WU]at g;apply VE
   ·obtain⟨O,lK,oD,oS,oR,Q,P,W,z,X,Y,Z,k6,k7,b,R⟩:=T6;rw[<-z,b];simp only[Tl,R,Xq,reduceIte,Nat.reduceEqDiff,x153_2,g,Zx];rfl
   ·simp only[Xm,reduceIte,Nat.reduceEqDiff,forall_const,and_self]
  have m:0<(Xd y).length:=by
   have :(Xd y).length≠0:=by rw[Ne,WV];omega
   omega
  by_cases j:(Xd x).length<=2/\(Xd y).length<=2
  ·
   have v1:=iP i u (Xo x) j.1;have v2:=iP i o (Xo y) j.2;rw[Xl]at v1 v2;have bx:=Fk j.1;have v:=Fk j.2;have hg:Nat.gcd x y<18446744073709551616:=Z6 (Nat.gcd_le_right x h0) v;have v3:=aX i hg;obtain⟨l1,l2,el⟩:=a.len;refine⟨true,.Xp (Ub (Xd (Nat.gcd x y))),G,.Xp,a,(v1.Xj.and (v2.Xj.and (v3.Xj.and (J.Xj.and (i.Xj.and (X1.ge (y+1))))))).mono fun E K ⟨e1,e2,e3,e4,d,hK⟩ k e f S=> ?_⟩;obtain⟨k,rfl⟩:∃w,k=w+1:=⟨k-1,by omega⟩;obtain⟨T1,t,H,I⟩:=oX (E:=E) (K:=K) (p:=.one (.ptr 2 0 0 0)) y x K [e,f,Bb [.p (.bool false),.p .XC]] (by omega) bx v;subst el;have A:=j.1;have N:=j.2;apply VE
   ·obtain⟨O,lK,oD,oS,oR,Q,P,W,z,X,Y,Z,k6,k7,b,R⟩:=T6;rw[<-z]at t⊢;rw[b];simp only[Tl,R,Xq,reduceIte,Nat.reduceEqDiff,Nat.reduceLeDiff,x153_2,u.len,o.len,m,A,N,d,X5,e1,e2,e3,e4,t,H,I];rfl
   ·simp only[Xm,reduceIte,Nat.reduceEqDiff,Bool.true_eq_false,false_implies,and_self]
  ·obtain⟨q,r,d1,d2,d3⟩:=gD i u o hx M h0;have T:=ZY x h0;have L:(Xd (x%y)).length<100000000000:=Z6 (XM (Nat.le_of_lt T)) M;obtain⟨rt,r2,c2,U,V,i3⟩:=ih (x%y) T y F r o d3 M L;have eg:Nat.gcd x y=Nat.gcd y (x%y):=by rw[Nat.gcd_comm,Nat.gcd_rec,Nat.gcd_comm]
   rw[<-eg]at U V;refine⟨rt,r2,c2,U,V,(d1.Xj.and (i3.and i.Xj)).mono fun E K ⟨e1,e2,d⟩ k e f S=> ?_⟩;obtain⟨k,rfl⟩:∃w,k=w+1:=⟨k-1,by omega⟩;obtain⟨s,t,H,I⟩:=e2 k e f (by omega);refine⟨s,?_,H,I⟩;obtain⟨O,lK,oD,oS,oR,Q,P,W,z,X,Y,Z,k6,k7,b,R⟩:=T6;rw[<-z]at t⊢;rw[b];by_cases A:(Xd x).length<=2
   ·have N:¬(Xd y).length<=2:=fun h=>j ⟨A,h⟩
    simp only[Tl,R,Xq,reduceIte,Nat.reduceEqDiff,x153_2,u.len,o.len,m,A,N,d,X5,e1];exact t
   ·simp only[Tl,R,Xq,reduceIte,Nat.reduceEqDiff,x153_2,u.len,o.len,m,A,d,X5,e1];exact t
theorem BO {B:Xs}(a:Std B){c d:List PL}{x y:Int}(P:Ta c x)(Q:Ta d y)(z:Sm x)(A:Sm y):∃e,Xx B 153 [.agg c,.agg d] (.agg e)/\Ta e (Nat.gcd x.natAbs y.natAbs):=by
 obtain⟨m,rfl,S⟩:=P;obtain⟨n,rfl,T⟩:=Q;unfold Sm at z A;obtain⟨r1,F,s1⟩:=eE a S (by omega);obtain⟨r2,G,s2⟩:=eE a T (by omega);obtain⟨u1,v,w1⟩:=OP a s1 (by omega);obtain⟨u2,w,w2⟩:=OP a s2 (by omega);obtain⟨rt,r,c,U,C,D⟩:=zu a y.natAbs x.natAbs u1 u2 w1 w2 z A;have t:(Xd (Nat.gcd x.natAbs y.natAbs)).length<1000000000000:=by
  rcases Yh y.natAbs with h|h
  ·rw[h,Nat.gcd_zero_right];omega
  ·have:=XM (Nat.gcd_le_right x.natAbs h);omega
 cases rt with
 |true=>
  refine⟨c,Xx.of (a.Wa _ _ rfl) ((F.Xj.and (G.Xj.and (v.Xj.and (w.Xj.and (D.and (a.Xj.and (X1.ge (y.natAbs+1)))))))).mono fun E K ⟨e1,e2,j,k,l,f,O⟩=> ?_),C⟩;obtain⟨H,b,q,i⟩:=l K ⟨false,0,2,[[.p (.bool (decide (x<0))),.p m]],false,46⟩ ⟨false,0,2,[[.p (.bool (decide (y<0))),.p n]],false,46⟩ (by omega);obtain⟨l1,l2,o⟩:=C.len;subst o;rw[cond_true]at b;obtain⟨I,lK,oD,oS,oR,M,L,V,u,W,X,Y,Z,k7,s,R⟩:=T6;rw[<-u]at b;simp(decide:=true)only[Tl,R,Xq,reduceIte,Nat.reduceAdd,x153,f,X5,e1,e2,j,k,b,q]
 |false=>
  obtain⟨c3,J,g⟩:=Vi a false U (Xo _) t;rw[Xl]at g
  replace g:Ta c3 (Nat.gcd x.natAbs y.natAbs):=by simpa using g
  refine⟨c3,Xx.of (a.Wa _ _ rfl) ((F.Xj.and (G.Xj.and (v.Xj.and (w.Xj.and (D.and (J.Xj.and (a.Xj.and (X1.ge (y.natAbs+1))))))))).mono fun E K ⟨e1,e2,j,k,l,N,f,O⟩=> ?_),g⟩;obtain⟨H,b,q,i⟩:=l K ⟨false,0,2,[[.p (.bool (decide (x<0))),.p m]],false,46⟩ ⟨false,0,2,[[.p (.bool (decide (y<0))),.p n]],false,46⟩ (by omega)
  replace i:=i rfl
  obtain⟨l1,l2,o⟩:=g.len;subst o;rw[cond_false]at b;obtain⟨I,lK,oD,oS,oR,M,L,V,u,W,X,Y,Z,k7,s,R⟩:=T6;rw[<-u]at b;simp(decide:=true)only[Tl,R,Xq,reduceIte,Nat.reduceAdd,x153,f,X5,e1,e2,j,k,N,b,q,i]
theorem dh (x:Int){y:Int}(j:y≠0):x / y=(if(decide (x<0)!=decide (y<0))=true then -((if x<0/\0<x.natAbs%y.natAbs then x.natAbs / y.natAbs+1 else x.natAbs / y.natAbs:Nat):Int)else((if x<0/\0<x.natAbs%y.natAbs then x.natAbs / y.natAbs+1 else x.natAbs / y.natAbs:Nat):Int))/\
  x%y=((if x<0/\0<x.natAbs%y.natAbs then y.natAbs-x.natAbs%y.natAbs else x.natAbs%y.natAbs:Nat):Int):=by
 have g:0<y.natAbs:=by omega
 have key:∀q r:Int,q*y+r=x->0<=r->r<y.natAbs->x / y=q/\x%y=r:=by
  intro q r k i m;have e1:x%y=r:=by
   rw[<-k,Int.add_comm,Int.add_mul_emod_self_right];rcases Int.lt_or_lt_of_ne j with h|h
   ·rw[<-Int.emod_neg,Int.emod_eq_of_lt i (by omega)]
   ·exact Int.emod_eq_of_lt i (by omega)
  have e2:=Int.mul_ediv_add_emod x y;rw[e1]at e2;refine⟨?_,e1⟩;have :y*(x / y)=y*q:=by rw[Int.mul_comm y q];omega
  exact Int.eq_of_mul_eq_mul_left j this
 have l:=YC x.natAbs y.natAbs;have n:=ZY x.natAbs g;generalize x.natAbs / y.natAbs=Q at *;generalize x.natAbs%y.natAbs=r at *;have a:(y.natAbs:Int)*(Q:Int)+(r:Int)=(x.natAbs:Int):=by exact_mod_cast l
 by_cases e:x<0<;>by_cases b:y<0
 ·have d:(x.natAbs:Int)= -x:=by omega
  have c:(y.natAbs:Int)= -y:=by omega
  rw[d,c]at a;by_cases f:0<r
  ·simp only[e,b,f,and_self,if_true,decide_true,bne_self_eq_false,Zz,if_false];refine key _ _ ?_ (by omega) (by omega);rw[Int.natCast_sub (by omega),c];push_cast;grind
  ·obtain rfl:r=0:=by omega
   simp only[e,b,Zx,and_false,if_false,decide_true,bne_self_eq_false,Zz];refine key _ _ ?_ (by omega) (by omega);push_cast at a⊢;grind
 ·have d:(x.natAbs:Int)= -x:=by omega
  have c:(y.natAbs:Int)=y:=by omega
  rw[d,c]at a;by_cases f:0<r
  ·simp only[e,b,f,and_self,if_true,decide_true,decide_false,bne_iff_ne,ne_eq,Bool.true_eq_false,not_false_eq_true];refine key _ _ ?_ (by omega) (by omega);rw[Int.natCast_sub (by omega),c];push_cast;grind
  ·obtain rfl:r=0:=by omega
   simp only[e,b,Zx,and_false,if_false,decide_true,decide_false,bne_iff_ne,ne_eq,Bool.true_eq_false,not_false_eq_true,if_true];refine key _ _ ?_ (by omega) (by omega);push_cast at a⊢;grind
 ·have d:(x.natAbs:Int)=x:=by omega
  have c:(y.natAbs:Int)= -y:=by omega
  rw[d,c]at a;simp only[e,b,false_and,if_false,decide_true,decide_false,bne_iff_ne,ne_eq,Zz,not_false_eq_true,if_true];refine key _ _ ?_ (by omega) (by omega);push_cast at a⊢;grind
 ·have d:(x.natAbs:Int)=x:=by omega
  have c:(y.natAbs:Int)=y:=by omega
  rw[d,c]at a;simp only[e,b,false_and,if_false,decide_false,bne_self_eq_false,Zz];refine key _ _ ?_ (by omega) (by omega);push_cast at a⊢;grind
theorem AO {B:Xs}(a:Std B){l:PL}{x:Nat}(s:aV l x)(b:(Xd x).length<100000000000):Xx B 179 [.one l,.one (.Xp [[.int .u32 (.ofNat 1)]])] (.one (.Xp (Ub (Xd (x+1))))):=by
 have h:=sH a s (lb:=.Xp (Ub [1])) .Xp (Xo x) (Wz.mk (by decide) Wz.nil) (by omega) (by decide);rw[Xl]at h;exact h
theorem gC {B:Xs}(a:Std B){c d:List PL}{x y:Int}(Y:Ta c x)(Z:Ta d y)(H:Sm x)(I:Sm y)(J:y≠0):∃e f,Xx B 154 [.agg c,.agg d] (.XZ [.agg e,.agg f,.one (.int .i64 (.ofNat 0))])/\Ta e (x / y)/\Ta f (x%y):=by
 obtain⟨m,rfl,hm⟩:=Y;obtain⟨n,rfl,G⟩:=Z;unfold Sm at H I;have t:0<y.natAbs:=by omega
 obtain⟨tr,S,M⟩:=eE a G (by omega);have o:(Xd y.natAbs).length≠0:=by rw[Ne,WV];omega
 obtain⟨q,r,N,O,z⟩:=gD a hm G H I t;obtain⟨e1,e2⟩:=dh x J;have P:=ZY x.natAbs t;have lq:(Xd (x.natAbs / y.natAbs)).length<100000000000:=Z6 (XM (Nat.div_le_self ..)) H;have lr:(Xd (x.natAbs%y.natAbs)).length<100000000000:=Z6 (XM (Nat.le_of_lt P)) I;by_cases g:x<0/\0<x.natAbs%y.natAbs
 ·have s1:=AO a O lq;have Q:=gF a G z (Xo _) (Xo _) (XM (Nat.le_of_lt P)) (by omega) (by rw[Xl,Xl];omega);rw[Xl,Xl]at Q;simp only[if_pos g]at e1 e2;have l1:(Xd (x.natAbs / y.natAbs+1)).length<1000000000000:=by
   have:=Uw (x.natAbs / y.natAbs) 1;rw[Sb.2 (by decide:0<1/\1<4294967296)]at this;omega
  have l2:(Xd (y.natAbs-x.natAbs%y.natAbs)).length<1000000000000:=by
   have:=XM (Nat.sub_le y.natAbs (x.natAbs%y.natAbs));omega
  obtain⟨e,C,h⟩:=Vi a (decide (x<0)!=decide (y<0)) (l:=.Xp (Ub (Xd (x.natAbs / y.natAbs+1)))) .Xp (Xo _) l1;obtain⟨f,D,b⟩:=Vi a false (l:=.Xp (Ub (Xd (y.natAbs-x.natAbs%y.natAbs)))) .Xp (Xo _) l2;rw[Xl]at h b;rw[<-e1]at h
  replace b:Ta f (x%y):=by rw[e2];simpa using b
  have p:((decide (x<0)==decide (y<0))!=true)=(decide (x<0)!=decide (y<0)):=by cases decide (x<0)<;>cases decide (y<0)<;>rfl
  obtain⟨z1,z2,A⟩:=h.len;obtain⟨z3,z4,k⟩:=b.len;subst A k;have s:=g.1;have L:0<(Xd (x.natAbs%y.natAbs)).length:=by
   have :(Xd (x.natAbs%y.natAbs)).length≠0:=by rw[Ne,WV];omega
   omega
  refine⟨_,_,Xx.of (a.Wa _ _ rfl) ((S.Xj.and (N.Xj.and (s1.Xj.and (Q.Xj.and (C.Xj.and (D.Xj.and a.Xj)))))).mono fun E K ⟨u,v,T,U,j,w,i⟩=> ?_),h,b⟩;simp only[s,decide_true]at j p;obtain⟨V,lK,oD,oS,oR,X,W,k1,k2,k3,k4,k5,k6,k7,F,R⟩:=T6;simp(decide:=true)only[Tl,R,Xq,reduceIte,Nat.reduceAdd,x154,i,X5,u,v,T,U,j,w,M.len,o,s,L,z.len,p]
 ·obtain⟨e,C,h⟩:=Vi a (decide (x<0)!=decide (y<0)) O (Xo _) (by omega);obtain⟨f,D,b⟩:=Vi a false z (Xo _) (by omega);simp only[if_neg g]at e1 e2;rw[Xl]at h b;rw[<-e1]at h
  replace b:Ta f (x%y):=by rw[e2];simpa using b
  have p:((decide (x<0)==decide (y<0))!=true)=(decide (x<0)!=decide (y<0)):=by cases decide (x<0)<;>cases decide (y<0)<;>rfl
  obtain⟨z1,z2,A⟩:=h.len;obtain⟨z3,z4,k⟩:=b.len;subst A k;refine⟨_,_,Xx.of (a.Wa _ _ rfl) ((S.Xj.and (N.Xj.and (C.Xj.and (D.Xj.and a.Xj)))).mono fun E K ⟨u,v,j,w,i⟩=> ?_),h,b⟩;obtain⟨V,lK,oD,oS,oR,X,W,k1,k2,k3,k4,k5,k6,k7,F,R⟩:=T6;by_cases s:x<0
  ·have L:¬0<(Xd (x.natAbs%y.natAbs)).length:=by
    have :(Xd (x.natAbs%y.natAbs)).length=0:=by rw[WV];omega
    omega
   simp only[s,decide_true]at j p;simp(decide:=true)only[Tl,R,Xq,reduceIte,Nat.reduceAdd,x154,i,X5,u,v,j,w,M.len,o,s,L,z.len,p]
  ·simp only[s,decide_false]at j p;simp(decide:=true)only[Tl,R,Xq,reduceIte,Nat.reduceAdd,x154,i,X5,u,v,j,w,M.len,o,s,p]
end Go.Proofs.YtidginchkjhobaaGreat
