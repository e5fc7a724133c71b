/- Package integer: one word of a quotient, in place. -/
import Derived.Test.YtefpgecinlekpaaGreatDiv
import Derived.Test.YtefpgecinlekpaaGreatSort
set_option maxHeartbeats 16000000
set_option maxRecDepth 100000
namespace Go.Num
theorem Tv (V p:Nat)(a:0<p):V / p*p<=V/\V<(V / p+1)*p:=by
 have h:=Yw V p;have b:=ZS V a;rw[ZK]at h;rw[ZE,Z0];omega
theorem OD (x m:Nat):x / 4294967296^m=x / 4294967296^(m+1)*4294967296+x / 4294967296^m%4294967296:=by
 rw[ZJ,<-YX];have:=Yw (x / 4294967296^m) 4294967296;omega
theorem Uw {x n:Nat}(h:x<4294967296^(n+1)):x / 4294967296^n<4294967296:=Yj (by rw[ZJ]at h;exact h)
theorem Sn (n:Nat):0<4294967296^n:=Nat.pow_pos (by decide)
theorem jA {V m:Nat}(h:pK V (m+2)):4294967296<=2*(V / 4294967296^(m+1)):=by
 obtain⟨a,b⟩:=h;obtain⟨-,c⟩:=Tv V _ (Sn (m+1));rw[show m+2=(m+1)+1 from rfl,ZJ]at a;generalize V / 4294967296^(m+1)=v at *;generalize 4294967296^(m+1)=p at *;rcases Yy (2*v) 4294967296 with h5|h5
 ·exfalso;have :(v+1)*2<=4294967296:=by omega
  have:=Zo p this;rw[Nat.mul_right_comm]at this;rw[ZK p]at a;omega
 ·exact h5
theorem wY {U V m:Nat}(b:U<V*4294967296):U / 4294967296^(m+1)<V / 4294967296^(m+1)*4294967296+4294967296:=by
 obtain⟨-,c⟩:=Tv V _ (Sn (m+1));apply Yj;have a:V*4294967296<(V / 4294967296^(m+1)+1)*4294967296^(m+1)*4294967296:=by omega
 generalize V / 4294967296^(m+1)=v at *;generalize 4294967296^(m+1)=p at *;have :(v+1)*p*4294967296=p*(v*4294967296+4294967296):=by rw[ZK (v+1) p,Yr,ZE,Z0]
 rw[<-this];exact YB b a
theorem cX {U V m q:Nat}(k:pK V (m+2))(o:U<V*4294967296)(l:pN (V / 4294967296^(m+1)) (V / 4294967296^m%4294967296) (U / 4294967296^(m+1)) (U / 4294967296^m%4294967296) q):U / V<=q/\q<=U / V+1:=by
 obtain⟨n,c,a⟩:=l;rw[<-OD,<-OD]at c a;obtain⟨d,e⟩:=Tv V _ (Sn m);obtain⟨f,g⟩:=Tv U _ (Sn m);have h:=k.1;rw[ZJ,ZJ]at h;obtain⟨D,b⟩:∃D,D=4294967295:=⟨_,rfl⟩;have i:D*4294967296^m<=V:=by
  generalize 4294967296^m=p at *;subst b;omega
 have j:U<V*(D+1):=by subst b;omega
 rw[<-b]at a;exact rh (Sn m) d e f g i (by omega) j c a
theorem DW {U V n q Y c b:Nat}(a:0<V)(k:V<4294967296^n)(h:Y+q*V=U%4294967296^n+(c+b)*4294967296^n)(l:Y<4294967296^n)(f:q=U / V):U / 4294967296^n=c+b/\Y=U%V:=by
 have d:=Yw U V;have g:=ZS U a;have i:=Yw U (4294967296^n);have j:=ZS U (Sn n);rw[<-f,ZK]at d;generalize 4294967296^n=p at *;generalize U / p=x at *;generalize U%p=y at *;generalize U%V=z at *;generalize q*V=w at *;have e:Y+p*x=z+(c+b)*p:=by omega
 rw[ZK p]at e;have :x=c+b:=by
  rcases Nat.lt_trichotomy x (c+b)with hx|hx|hx
  ·have:=Zo p (show x+1<=c+b from hx);rw[ZE]at this;omega
  ·exact hx
  ·have:=Zo p (show c+b+1<=x from hx);rw[ZE]at this;omega
 subst this;exact⟨rfl,by omega⟩
theorem zC {U V n q Y c b:Nat}(a:0<V)(k:V<4294967296^n)(h:Y+q*V=U%4294967296^n+(c+b)*4294967296^n)(l:Y<4294967296^n)(f:q=U / V+1):c+b=U / 4294967296^n+1/\Y+V=U%V+4294967296^n:=by
 have d:=Yw U V;have g:=ZS U a;have i:=Yw U (4294967296^n);have j:=ZS U (Sn n);rw[f,ZE,Z0]at h;rw[ZK]at d;generalize 4294967296^n=p at *;generalize U / p=x at *;generalize U%p=y at *;generalize U%V=z at *;generalize U / V*V=w at *;have e:Y+V+p*x=z+(c+b)*p:=by omega
 rw[ZK p]at e;have :c+b=x+1:=by
  rcases Nat.lt_trichotomy (c+b) (x+1)with hx|hx|hx
  ·have:=Zo p (show c+b<=x by omega);omega
  ·exact hx
  ·have:=Zo p (show x+2<=c+b by omega);rw[ZE]at this;omega
 rw[this]at e⊢;rw[ZE]at e;exact⟨rfl,by omega⟩
theorem fb {n X:Nat}(h:X<4294967296^n):dg (n+1) X=dg n X++[0]:=by
 rw[lJ,YJ h]
end Go.Num
namespace Go.Proofs.YtefpgecinlekpaaGreat
open Go.Ev Go.Num
theorem wrap_u32 (a:Nat):Xe .u32 (.ofNat a)=.ofNat (a%4294967296):=rfl
theorem Ds {B:Xr}(hB:Std B){H:List Xz}{iu iv j m tu tv:Nat}{a f Vw:List Nat}{U V:Nat}(W:iu≠iv)(e:a.length=j)(hm:m<100000000000)(hN:pK V (m+2))(hU:U<V*4294967296)
  (hV:∀i,i<m+2->Vw[i]? =some (V / 4294967296^i%4294967296)) (Z:H[iu]? =some ⟨false,0,1,Wm (a++(dg (m+3) U++f)),false,tu⟩) (hv:H[iv]? =some ⟨false,0,1,Wm Vw,false,tv⟩):
  UA B 207 [.one (.own iu 0 j (m+3)),.one (.own iv 0 0 (m+2))] H (.one (.p (.int .u32 (.ofNat (U / V))))) (H.set iu ⟨false,0,1,Wm (a++(dg (m+3) (U%V)++f)),false,tu⟩):=by
 refine UA.of (hB.X6 _ _ rfl) (((X0.ge (m+5)).and hB.Xi).mono fun E K ⟨hK,f9⟩=> ?_);have M:0<V:=by
  rcases Z8 V with h|h
  ·subst h;omega
  ·exact h
 have k:=hN.2;have T:U<4294967296^(m+3):=by
  have:=Yl k (show 0<4294967296 by decide);rw[<-ZJ]at this;exact YB hU this
 obtain⟨v1,v⟩:∃v1,v1=V / 4294967296^(m+1):=⟨_,rfl⟩;have e0:v1<4294967296:=by rw[v];exact Uw k
 obtain⟨v2,G⟩:∃v2,v2=V / 4294967296^m%4294967296:=⟨_,rfl⟩;have e8:v2<4294967296:=by rw[G];exact ZS _ (by decide)
 obtain⟨z,l⟩:∃z,z=U / 4294967296^(m+2):=⟨_,rfl⟩;have a0:z<4294967296:=by rw[l];exact Uw T
 obtain⟨u1,D⟩:∃u1,u1=U / 4294967296^(m+1)%4294967296:=⟨_,rfl⟩;have d8:u1<4294967296:=by rw[D];exact ZS _ (by decide)
 obtain⟨u2,F⟩:∃u2,u2=U / 4294967296^m%4294967296:=⟨_,rfl⟩;have d9:u2<4294967296:=by rw[F];exact ZS _ (by decide)
 obtain⟨d,u⟩:∃d,d=z*4294967296+u1:=⟨_,rfl⟩;have g:d=U / 4294967296^(m+1):=by rw[u,l,D];exact(OD U (m+1)).symm
 have s:=jA hN;have n:=wY (m:=m) hU;rw[<-v]at s n;rw[<-g]at n;have P:Vw[m+1]? =some v1:=by rw[hV (m+1) (by omega),v,Zf (Uw k)]
 have d0:Vw[m]? =some v2:=by rw[hV m (by omega),G]
 have c0:(a++(dg (m+3) U++f))[j+(m+2)]? =some z:=by rw[lS e (by omega),l,Zf (Uw T)]
 have a9:(a++(dg (m+3) U++f))[j+(m+1)]? =some u1:=by rw[lS e (by omega),D]
 have b0:(a++(dg (m+3) U++f))[j+m]? =some u2:=by rw[lS e (by omega),F]
 obtain⟨w,rfl⟩:∃w,v1=w+1:=⟨v1-1,by omega⟩;have N:=Yw d (w+1);have d3:=ZS d (show 0<w+1 by omega);obtain⟨J,L⟩:∃J,J=d / (w+1):=⟨_,rfl⟩;obtain⟨r0,C⟩:∃r0,r0=d%(w+1):=⟨_,rfl⟩;rw[<-L,<-C]at N;rw[<-C]at d3;have X:J<=4294967298:=by
  rcases Yy 4294967298 J with h|h
  ·exfalso;have:=YH (w+1) (show 4294967299<=J from h);omega
  ·exact h
 have t:d*4294967296+u2<(J+1)*((w+1)*4294967296+v2):=by
  rw[Nat.mul_add,<-Yr];have h1:d+1<=(J+1)*(w+1):=by rw[ZE,Z0,ZK J];omega
  have h2:=Zo 4294967296 h1;have h3:=Zs ((J+1)*v2);omega
 obtain⟨T1,q,a1,⟨a2,a3,a4,a5⟩,a6⟩:=ri (E:=E) (K:=K) Z hv (by omega) P d0 b0 e0 e8 d9 n 2 J r0 (by rw[ZK];exact N) (by omega) X (by omega) (.inr t) K (by omega);have bq:q<4294967296:=a6.1;rw[v,G,g,F]at a6;obtain⟨g0,g1⟩:=cX hN hU a6;have f0:H[iu]? =some ⟨false,0,1,Wm (a++[]++(dg (m+2+1) (U / 4294967296^0)++f)),false,tu⟩:=by
  rw[ZN,Nat.pow_zero,Nat.div_one];exact Z
 obtain⟨T2,O,c,b,b1,⟨b2,b3,b4,b5,b6,b7⟩,b8,b9,f7,f8,S⟩:=mI (E:=E) (K:=K) W e (show m+2<1000000000000 by omega) bq hV (m+2) 0 K H [] 0 0 (by omega) (by omega) f0 hv rfl WB.nil (by decide) (by decide) (by simp[val,Nat.mod_one]);rw[Zf k]at S;have hY:val O<4294967296^(m+2):=by have:=WN b9;rwa[b8]at this
 have a7:U / 4294967296^(m+2)%4294967296=z:=by rw[l,Zf (Uw T)]
 have e9:dg 1 (U / 4294967296^(m+2))++f=z::f:=by
  show U / 4294967296^(m+2)%4294967296::f=_;rw[a7]
 rw[e9]at b1;have d4:(a++O).length=j+(m+2):=by rw[Zl,e,b8]
 have s1:Xe .i64 (.ofNat (m+2)-.ofNat 1)=.ofNat (m+1):=by rw[Wh (by omega) (by omega)];rfl
 have n1:m+1<m+2:=by omega
 have n2:m+1<m+3:=by omega
 have n3:m+2<m+3:=by omega
 have w1:=X5 c0;have w2:=X5 a9;have w3:=X5 P;have f1:z%18446744073709551616=z:=Zf (by omega);have f2:u1%18446744073709551616=u1:=Zf (by omega);have f3:(w+1)%18446744073709551616=w+1:=Zf (by omega);have o1:=eS a0;have o2:=qK a0 d8;rw[<-u]at o2;have o3:Tx .u64 (.ofNat d) (.ofNat (w+1))=some (.p (.int .u64 (.ofNat J))):=by
  show some (DL.p (.int .u64 (Xe .u64 (.ofNat (d / (w+1))))))=_;rw[<-L,wrap_u64,Zf (by omega)]
 have o4:U9 .u64 (.ofNat d) (.ofNat (w+1))=some (.p (.int .u64 (.ofNat r0))):=by rw[C];rfl
 have w4:=X5 (OQ (a++O) f z d4);obtain⟨d1,k1,p1⟩:∃d1,Xe .u64 (.ofNat z-.ofNat c)=.ofNat d1/\d1=(z+(18446744073709551616-c))%18446744073709551616:=⟨_,OE (by omega),rfl⟩;obtain⟨o,k2,p2⟩:∃o,Xe .u64 (.ofNat d1-.ofNat b)=.ofNat o/\o=(d1+(18446744073709551616-b))%18446744073709551616:=⟨_,OE (by omega),rfl⟩;have d7:(a++O++z::f).set (j+(m+2)) (o%4294967296)=a++O++[o%4294967296]++f:=OP _ _ _ _ d4;rcases Yy q (U / V+1)with hcase|hcase
 ·
  have y:q=U / V:=by omega
  obtain⟨r1,r2⟩:=DW M k S hY y;rw[<-l]at r1;have r:o=0:=by omega
  have I:a++O++[o%4294967296]++f=a++(dg (m+3) (U%V)++f):=by
   rw[r,fb (YB (ZS U M) k),<-r2,<-Tu b9 b8 rfl];simp
  have hz:(o / 9223372036854775808=0)=True:=by rw[r];simp
  have Y:q%4294967296=U / V:=by rw[Zf bq];exact y
  clear p1 p2 r t N n s u g v G l D F L C r1 r2 X;obtain⟨cE,lK,oD,oS,oR,dS,dD,e1,e2,e3,e4,e5,e6,e7,hL,R⟩:=T7;rw[<-e2]at a1 b1;simp only[Tj,R,WR,Xq,reduceIte,Nat.reduceEqDiff,Nat.reduceLeDiff,Nat.reduceAdd,Zs,x207,Z,hv,s1,n1,n2,n3,w1,w2,w3,w4,f1,f2,f3,o1,o2,o3,o4,a1,a2,a3,a4,a5,b1,b2,b3,b4,b5,b6,b7,k1,k2,Q7 Z,List.set_set,WG,d7,I,hz,Y]
 ·
  have y:q=U / V+1:=by omega
  obtain⟨r1,r2⟩:=zC M k S hY y;rw[<-l]at r1;have r:o=18446744073709551615:=by omega
  have hz:(o / 9223372036854775808=0)=False:=by rw[r];simp
  have f4:(H.set iu ⟨false,0,1,Wm (a++O++[o%4294967296]++f),false,tu⟩)[iu]? =some ⟨false,0,1,Wm (a++[]++(O.drop 0++(o%4294967296::f))),false,tu⟩:=by
   rw[Q7 Z];simp
  obtain⟨T3,zl,c3,c1,⟨c2,c4,c5,c6⟩,c7,c8,c9,A⟩:=nk (E:=E) (K:=K) (q:=q) W e (show m+2<1000000000000 by omega) b8 b9 hV (m+2) 0 K (H.set iu ⟨false,0,1,Wm (a++O++[o%4294967296]++f),false,tu⟩) [] 0 (by omega) (by omega) f4 (bu W hv) rfl WB.nil (by decide) (by simp[val,Nat.mod_one]);rw[Zf k,r2]at A;have hZ:val zl<4294967296^(m+2):=by have:=WN c8;rwa[c7]at this
  have hR:=ZS U M;have a8:c3=1:=by
   rcases Yy c3 1 with h|h
   ·have h0:c3=0:=by omega
    rw[h0,YS,Z3]at A;rw[A]at hZ;exact absurd hZ (Nat.not_lt.2 (Nat.le_add_left ..))
   ·omega
  have f5:val zl=U%V:=by rw[a8,Z0]at A;exact Nat.add_right_cancel A
  rw[List.set_set]at c1;have Q:(a++zl).length=j+(m+2):=by rw[Zl,e,c7]
  have w5:=X5 (OQ (a++zl) f (o%4294967296) Q);have f6:∀x,(a++zl++o%4294967296::f).set (j+(m+2)) x=a++zl++[x]++f:=fun x=>OP _ _ _ _ Q
  have d6:(o%4294967296+c3%4294967296)%4294967296=0:=by rw[r,a8]
  have I:a++zl++[0]++f=a++(dg (m+3) (U%V)++f):=by
   rw[fb (YB hR k),<-f5,<-Tu c8 c7 rfl];simp
  have d5:U / V<4294967296:=by rw[y]at bq;exact Nat.lt_of_succ_lt bq
  have k3:Xe .u64 (.ofNat q-.ofNat 1)=.ofNat (U / V):=by
   rw[y,TK (Nat.le_add_left ..),wrap_u64,Yb,Zf (YB d5 (by decide))]
  have Y:U / V%4294967296=U / V:=Zf d5;clear p1 p2 r t N n s u g v G l D F L C r1 r2 X;obtain⟨cE,lK,oD,oS,oR,dS,dD,e1,e2,e3,e4,e5,e6,e7,hL,R⟩:=T7;rw[<-e2]at a1 b1 c1;simp only[Tj,R,WR,Xq,reduceIte,Nat.reduceEqDiff,Nat.reduceLeDiff,Nat.reduceAdd,Zs,x207,Z,hv,s1,n1,n2,n3,w1,w2,w3,w4,f1,f2,f3,o1,o2,o3,o4,a1,a2,a3,a4,a5,b1,b2,b3,b4,b5,b6,b7,k1,k2,Q7 Z,List.set_set,WG,d7,hz,c1,c2,c4,c5,c6,w5,f6,d6,I,k3,Y]
end Go.Proofs.YtefpgecinlekpaaGreat
namespace Go.Num
def nO:Nat->List Nat->Bool
 |_,[]=>true
 |i,b::bs=>Nat.ble 1 b&&Nat.ble b 8&&Nat.ble (2^(b-1)) i&&Nat.blt i (2^b)&&nO (i+1) bs
theorem jt:∀{a:List Nat} {i k:Nat},nO i a=true->k<a.length->∃b,a[k]? =some b/\1<=b/\b<=8/\2^(b-1)<=i+k/\i+k<2^b
 |[],_,_,_,hk=>by simp at hk
 |b::a,i,0,h,_=>by
  simp only[nO,Zp,Go.Ev.uc,Go.Ev.aS,decide_eq_true_eq]at h;exact⟨b,rfl,h.1.1.1.1,h.1.1.1.2,h.1.1.2,h.1.2⟩
 |b::a,i,k+1,h,hk=>by
  simp only[nO,Zp]at h;obtain⟨c,d,e⟩:=jt (k:=k) h.2 (by simpa using hk);exact⟨c,d,by rw[show i+(k+1)=i+1+k by omega];exact e⟩
theorem OS {i:Nat}(h0:0<i)(h:i<256):∃b,(0::1::2::2::3::3::3::3::4::4::4::4::4::4::4::4::5::5::5::5::5::5::5::5::5::5::5::5::5::5::5::5::6::6::6::6::6::6::6::6::6::6::6::6::6::6::6::6::6::6::6::6::6::6::6::6::6::6::6::6::6::6::6::6::7::7::7::7::7::7::7::7::7::7::7::7::7::7::7::7::7::7::7::7::7::7::7::7::7::7::7::7::7::7::7::7::7::7::7::7::7::7::7::7::7::7::7::7::7::7::7::7::7::7::7::7::7::7::7::7::7::7::7::7::7::7::7::7::8::8::8::8::8::8::8::8::8::8::8::8::8::8::8::8::8::8::8::8::8::8::8::8::8::8::8::8::8::8::8::8::8::8::8::8::8::8::8::8::8::8::8::8::8::8::8::8::8::8::8::8::8::8::8::8::8::8::8::8::8::8::8::8::8::8::8::8::8::8::8::8::8::8::8::8::8::8::8::8::8::8::8::8::8::8::8::8::8::8::8::8::8::8::8::8::8::8::8::8::8::8::8::8::8::8::8::8::8::8::8::8::8::8::8::8::8::8::8::8::8::8::8::8::8::8::8::8::[])[i]? =some b/\1<=b/\b<=8/\2^(b-1)<=i/\i<2^b:=by
 obtain⟨k,rfl⟩:∃k,i=k+1:=⟨i-1,by omega⟩;generalize a:(1::2::2::3::3::3::3::4::4::4::4::4::4::4::4::5::5::5::5::5::5::5::5::5::5::5::5::5::5::5::5::6::6::6::6::6::6::6::6::6::6::6::6::6::6::6::6::6::6::6::6::6::6::6::6::6::6::6::6::6::6::6::6::7::7::7::7::7::7::7::7::7::7::7::7::7::7::7::7::7::7::7::7::7::7::7::7::7::7::7::7::7::7::7::7::7::7::7::7::7::7::7::7::7::7::7::7::7::7::7::7::7::7::7::7::7::7::7::7::7::7::7::7::7::7::7::7::8::8::8::8::8::8::8::8::8::8::8::8::8::8::8::8::8::8::8::8::8::8::8::8::8::8::8::8::8::8::8::8::8::8::8::8::8::8::8::8::8::8::8::8::8::8::8::8::8::8::8::8::8::8::8::8::8::8::8::8::8::8::8::8::8::8::8::8::8::8::8::8::8::8::8::8::8::8::8::8::8::8::8::8::8::8::8::8::8::8::8::8::8::8::8::8::8::8::8::8::8::8::8::8::8::8::8::8::8::8::8::8::8::8::8::8::8::8::8::8::8::8::8::8::8::8::8::8::[])=L;have l:L.length=255:=by subst a;rfl
 have j:nO 1 L=true:=by subst a;rfl
 obtain⟨b,c,d,e,f,g⟩:=jt (k:=k) j (by omega);exact⟨b,by simpa using c,d,e,by rw[YO];exact f,by rw[YO];exact g⟩
theorem qX {w k b:Nat}(g:1<=b)(d:2^(b-1)<=w / 2^k)(e:w / 2^k<2^b):2^(k+b-1)<=w/\w<2^(k+b):=by
 have f:0<2^k:=Nat.pow_pos (by decide);obtain⟨a,c⟩:=Tv w _ f;constructor
 ·rw[show k+b-1=(b-1)+k by omega,Nat.pow_add];exact ZD (Zo _ d) a
 ·rw[YO,Nat.pow_add];exact ZW c (Zo _ e)
end Go.Num
namespace Go.Proofs.YtefpgecinlekpaaGreat
open Go.Ev Go.Num
theorem vL {B:Xr}(f:Std B){w:Nat}(h0:0<w)(I:w<4294967296):∃l,1<=l/\l<=32/\2^(l-1)<=w/\w<2^l/\Xs B 168 [.one (.int .u32 (.ofNat w))] (.one (.int .i64 (.ofNat l))):=by
 have z:∀(E:Xb) C,XG E .Tg C=false:=fun _ _=>rfl
 have A:∀(E:Xb) (b:Nat) (C:List DV) (h:HF) (n:Nat),Wc E b .Tg C h n=VY C:=fun _ _ _ _ _=>rfl
 have G:∀a,Qr .u32 (.ofNat a) (.ofNat 16)=some (.p (.int .u32 (.ofNat (a / 65536)))):=fun _=>rfl
 have H:∀a,Qr .u32 (.ofNat a) (.ofNat 8)=some (.p (.int .u32 (.ofNat (a / 256)))):=fun _=>rfl
 by_cases y:65536<=w
 ·by_cases u:256<=w / 65536
  ·have e:w / 65536 / 256=w / 16777216:=by omega
   obtain⟨b,q,s,D,c,d⟩:=OS (i:=w / 65536 / 256) (by omega) (by omega);rw[e]at c d;obtain⟨g,j⟩:=qX (w:=w) (k:=24) s c d;have m:Xe .i64 (.ofNat b)=.ofNat b:=wrap_i64 (by omega);have t:Xe .i64 (.ofNat (24+b))=.ofNat (24+b):=by first |exact wrap_i64 (by omega)|(rw[Z4];exact wrap_i64 (by omega))
   have o:Xe .u8 (.ofNat (w / 65536 / 256))=.ofNat (w / 65536 / 256):=wrap_u8 (by omega);have v:Xe .i64 (.ofNat 24)=.ofNat 24:=rfl;have x:Xe .i64 (.ofNat 8)=.ofNat 8:=rfl;have F:Xe .i64 (.ofNat 16)=.ofNat 16:=rfl;refine⟨24+b,by omega,by omega,g,j,Xs.of (f.X6 _ _ rfl) (f.Xi.mono fun E K r=> ?_)⟩;simp only[Xp,Xq,z,A,reduceIte,Nat.reduceEqDiff,Nat.reduceLeDiff,Nat.reduceAdd,x168,y,u,G,H,bQ q,m,t,o,v]
  ·obtain⟨b,q,s,D,c,d⟩:=OS (i:=w / 65536) (by omega) (by omega);obtain⟨g,j⟩:=qX (w:=w) (k:=16) s c d;have m:Xe .i64 (.ofNat b)=.ofNat b:=wrap_i64 (by omega);have t:Xe .i64 (.ofNat (16+b))=.ofNat (16+b):=by first |exact wrap_i64 (by omega)|(rw[Z4];exact wrap_i64 (by omega))
   have o:Xe .u8 (.ofNat (w / 65536))=.ofNat (w / 65536):=wrap_u8 (by omega);have v:Xe .i64 (.ofNat 24)=.ofNat 24:=rfl;have x:Xe .i64 (.ofNat 8)=.ofNat 8:=rfl;have F:Xe .i64 (.ofNat 16)=.ofNat 16:=rfl;refine⟨16+b,by omega,by omega,g,j,Xs.of (f.X6 _ _ rfl) (f.Xi.mono fun E K r=> ?_)⟩;simp only[Xp,Xq,z,A,reduceIte,Nat.reduceEqDiff,Nat.reduceLeDiff,x168,y,u,G,bQ q,m,t,o]
 ·by_cases u:256<=w
  ·obtain⟨b,q,s,D,c,d⟩:=OS (i:=w / 256) (by omega) (by omega);obtain⟨g,j⟩:=qX (w:=w) (k:=8) s c d;have m:Xe .i64 (.ofNat b)=.ofNat b:=wrap_i64 (by omega);have t:Xe .i64 (.ofNat (8+b))=.ofNat (8+b):=by first |exact wrap_i64 (by omega)|(rw[Z4];exact wrap_i64 (by omega))
   have o:Xe .u8 (.ofNat (w / 256))=.ofNat (w / 256):=wrap_u8 (by omega);have v:Xe .i64 (.ofNat 24)=.ofNat 24:=rfl;have x:Xe .i64 (.ofNat 8)=.ofNat 8:=rfl;have F:Xe .i64 (.ofNat 16)=.ofNat 16:=rfl;refine⟨8+b,by omega,by omega,g,j,Xs.of (f.X6 _ _ rfl) (f.Xi.mono fun E K r=> ?_)⟩;simp only[Xp,Xq,z,A,reduceIte,Nat.reduceEqDiff,Nat.reduceLeDiff,x168,y,u,H,bQ q,m,t,o,x]
  ·obtain⟨b,q,s,D,c,d⟩:=OS (i:=w) (by omega) (by omega);have g:2^(b-1)<=w:=c;have j:w<2^b:=d;have m:Xe .i64 (.ofNat b)=.ofNat b:=wrap_i64 (by omega);have t:Xe .i64 (.ofNat (0+b))=.ofNat (b):=by first |exact wrap_i64 (by omega)|(rw[Z4];exact wrap_i64 (by omega))
   have o:Xe .u8 (.ofNat (w))=.ofNat (w):=wrap_u8 (by omega);have v:Xe .i64 (.ofNat 24)=.ofNat 24:=rfl;have x:Xe .i64 (.ofNat 8)=.ofNat 8:=rfl;have F:Xe .i64 (.ofNat 16)=.ofNat 16:=rfl;refine⟨b,by omega,by omega,g,j,Xs.of (f.X6 _ _ rfl) (f.Xi.mono fun E K r=> ?_)⟩;simp only[Xp,Xq,z,A,reduceIte,Nat.reduceEqDiff,Nat.reduceLeDiff,x168,y,u,bQ q,m,o]
theorem DJ {B:Xr}(a:Std B){w:Nat}(h0:0<w)(i:w<4294967296):∃l,1<=l/\l<=32/\2^(l-1)<=w/\w<2^l/\Xs B 205 [.one (.int .u32 (.ofNat w))] (.one (.int .i64 (.ofNat (32-l)))):=by
 obtain⟨l,e,c,f,g,h⟩:=vL a h0 i;refine⟨l,e,c,f,g,Xs.of (a.X6 _ _ rfl) ((h.Xi.and a.Xi).mono fun E K ⟨e1,b⟩=> ?_)⟩;have d:Xe .i64 (.ofNat 32-.ofNat l)=.ofNat (32-l):=Wh c (by decide);simp only[Xp,Xq,reduceIte,Nat.reduceEqDiff,Nat.reduceLeDiff,x205,b,XW,e1,d]
end Go.Proofs.YtefpgecinlekpaaGreat
namespace Go.Num
theorem BD {y n l w:Nat}(h:1<=l)(m:l<=32)(j:w=y / 4294967296^n)(f:2^(l-1)<=w)(g:w<2^l):pK (y*2^(32-l)) (n+1):=by
 obtain⟨a,b⟩:=Tv y _ (Sn n);rw[<-j]at a b;have e1:2^(l-1)*2^(32-l)=2147483648:=by
  rw[<-Nat.pow_add,show l-1+(32-l)=31 by omega]
 have e2:2^l*2^(32-l)=4294967296:=by
  rw[<-Nat.pow_add,show l+(32-l)=32 by omega]
 have i:0<2^(32-l):=Nat.pow_pos (by decide);have d:2147483648<=w*2^(32-l):=by rw[<-e1];exact Zo _ f
 have e:(w+1)*2^(32-l)<=4294967296:=by rw[<-e2];exact Zo _ g
 generalize 2^(32-l)=z at *;generalize c:4294967296^n=P at *;constructor
 ·rw[ZJ,c];have:=Zo z a;have k:=Zo P d;rw[Nat.mul_right_comm]at k;have e3:2*(y*z)=y*z+y*z:=by omega
  omega
 ·rw[ZJ,c];have:=Yl b i;have k:=Zo P e;rw[Nat.mul_right_comm]at k;rw[ZK P];exact ZW this k
theorem mG {n y:Nat}(h:(Xd y).length=n+1):(Xd y)[n]? =some (y / 4294967296^n)/\0<y / 4294967296^n/\y / 4294967296^n<4294967296/\4294967296^n<=y:=by
 have e:Xd y=dg (n+1) y:=Tu (Xn y) h (Xj y);have a:=QV (Ws y) (by omega);rw[Xj,h,Yb]at a;have c:y<4294967296^(n+1):=by have:=Te y;rwa[h]at this
 have b:=Uw c;refine⟨?_,Nat.div_pos a (Sn n),b,a⟩;rw[e,bS (by omega),Zf b]
theorem bM {X V L N n j:Nat}(c:L=j+((n+1)+(N-j)))(e:0<V)(a:V<4294967296^n):
  dg L (X%(V*4294967296^(j+1)))=dg j (X%(V*4294967296^(j+1)))++(dg (n+1) (X%(V*4294967296^(j+1)) / 4294967296^j)++List.replicate (N-j) 0)/\
  dg L (X%(V*4294967296^j))=dg j (X%(V*4294967296^(j+1)))++(dg (n+1) (X%(V*4294967296^(j+1)) / 4294967296^j%V)++List.replicate (N-j) 0)/\
  X%(V*4294967296^(j+1)) / 4294967296^j<V*4294967296:=by
 have h:=Sn j;have g:V*4294967296^j ∣ V*4294967296^(j+1):=Nat.mul_dvd_mul_left V (by rw[ZJ];exact Nat.dvd_mul_right ..);have e1:X%(V*4294967296^j)=X%(V*4294967296^(j+1))%(V*4294967296^j):=(Nat.mod_mod_of_dvd X g).symm;have f:X%(V*4294967296^(j+1))<V*4294967296^(j+1):=ZS _ (Nat.mul_pos e (Sn _));rw[e1];generalize X%(V*4294967296^(j+1))=Z at *;have d:Z / 4294967296^j<V*4294967296:=Yj (by rw[ZJ]at f;rw[Nat.mul_left_comm];exact f);have b:Z / 4294967296^j<4294967296^(n+1):=by
  have:=Yl a (show 0<4294967296 by decide);rw[<-ZJ]at this;exact YB d this
 have e2:Z%(V*4294967296^j) / 4294967296^j=Z / 4294967296^j%V:=by rw[ZK V,Nat.mod_mul_right_div_self]
 have e3:dg j (Z%(V*4294967296^j))=dg j Z:=tY (Nat.mod_mod_of_dvd Z (Nat.dvd_mul_left ..));refine⟨?_,?_,d⟩
 ·rw[c,TE,TE,YJ b,lI]
 ·rw[c,TE,TE,e2,e3,YJ (YB (ZS _ e) (YB a (Nat.pow_lt_pow_right (by decide) (Nat.lt_succ_self n)))),lI]
theorem jh {X V N j:Nat}(a:j<=N):X%(V*4294967296^(j+1)) / 4294967296^j / V::dg (N-j) (X / (V*4294967296^(j+1)))=dg (N+1-j) (X / (V*4294967296^j)):=by
 rw[show N+1-j=(N-j)+1 by omega,dg,YX,YX,ZJ,<-Yr,ZK (4294967296^j) V,Nat.mod_mul_right_div_self]
end Go.Num
namespace Go.Proofs.YtefpgecinlekpaaGreat
open Go.Ev Go.Num
theorem OF {d id XZ c a l u:Nat}{h:HF}{b:Xz}(g:h id=some b)(e:l<=u)(f:u<=a)(i:b.sz=d):WH d h (.own id XZ c a) l (some u)=some (.own id XZ (c+l) (u-l),[id]):=by
 simp only[WH,g,Option.getD_some,Qf e,Qf f,Bool.true_or,Bool.true_and,pz i,cond_true]
def mf (X V L n N i:Nat):List Xz:=[⟨false,0,1,Wm (dg L (X%(V*4294967296^i))),false,161⟩,⟨false,0,1,Wm (dg (n+1) V),false,161⟩,⟨false,0,1,Wm (List.replicate i 0++dg (N+1-i) (X / (V*4294967296^i))),false,161⟩]
theorem tU {E:Xb}{K:Nat}{X V L m N s:Nat}(J:L=N+(m+3))(M:N<100000000000)(P:m<100000000000)(e:E.mode=md)(O:pK V (m+2))(g:0<V)
  (n:∀j,j<N+1->E.heap 207 [.one (.own 0 0 j (m+3)),.one (.own 1 0 0 (m+2))] (mf X V L (m+2) N (j+1))=some (.one (.p (.int .u32 (.ofNat (X%(V*4294967296^(j+1)) / 4294967296^j / V)))),(mf X V L (m+2) N (j+1)).set 0 ⟨false,0,1,Wm (dg L (X%(V*4294967296^j))),false,161⟩)):
  ∀(i:Nat),i<=N+1->∀k,i<k->∃c,Xc E K 0 [8,9,10,11,12,13] x190_1 k ⟨[(8,.one (.p (.int .i64 (.ofNat (m+2))))),(9,.one (.p (.int .i64 (.ofNat s)))),(10,.one (.own 0 0 0 L)),(11,.one (.own 1 0 0 (m+2))),(12,.one (.own 2 0 0 (N+1))),(13,.one (.p (.int .i64 (pI i))))],mf X V L (m+2) N i⟩=some (.exit 0,⟨c,mf X V L (m+2) N 0⟩)/\
   Xh c 8=some (.one (.p (.int .i64 (.ofNat (m+2)))))/\Xh c 9=some (.one (.p (.int .i64 (.ofNat s))))/\Xh c 10=some (.one (.own 0 0 0 L))/\Xh c 12=some (.one (.own 2 0 0 (N+1)))
 |_,_,0,h=>by omega
 |0,_,k+1,_=>by
  apply VM
  ·obtain⟨o,S,T,W,U,r,q,e1,e2,e3,t,u,v,w,d,R⟩:=T7;rw[<-e2,d];simp only[Tj,R,Xq,reduceIte,Nat.reduceEqDiff,x190_1,dT];rfl
  ·simp only[Xp,reduceIte,Nat.reduceEqDiff,and_self]
 |j+1,hj,k+1,hk=>by
  obtain⟨c,l,I⟩:=tU J M P e O g n j (by omega) k (by omega);refine⟨c,?_,I⟩;have f:=n j (by omega);obtain⟨Q,x⟩:∃Q,Q=X%(V*4294967296^(j+1)) / 4294967296^j / V:=⟨_,rfl⟩;have a:=jh (X:=X) (V:=V) (N:=N) (j:=j) (by omega);rw[<-x]at f a;have y:Xe .i64 (.ofNat (j+(m+2)))=.ofNat (j+(m+2)):=wrap_i64 (by omega);have z:Xe .i64 (.ofNat (j+(m+2)+1))=.ofNat (j+(m+2)+1):=wrap_i64 (by omega);have A:Xe .i64 (.ofNat j-.ofNat 1)=pI j:=Uo (by omega);have B:WH 1 (Xl (mf X V L (m+2) N (j+1))) (.own 0 0 0 L) j (some (j+(m+2)+1))=some (.own 0 0 j (m+3),[0]):=by
   rw[OF (b:=⟨false,0,1,Wm (dg L (X%(V*4294967296^(j+1)))),false,161⟩) rfl (by omega) (by omega) rfl,Z4,show j+(m+2)+1-j=m+3 by omega]
  have C:((mf X V L (m+2) N (j+1)).set 0 ⟨false,0,1,Wm (dg L (X%(V*4294967296^j))),false,161⟩)[2]? =some ⟨false,0,1,Wm (List.replicate (j+1) 0++dg (N-j) (X / (V*4294967296^(j+1)))),false,161⟩:=by
   show some (Xz.mk false 0 1 (Wm (List.replicate (j+1) 0++dg (N+1-(j+1)) (X / (V*4294967296^(j+1))))) false 161)=_;rw[Nat.add_sub_add_right]
  have F:=X5 (ea 0 j (dg (N-j) (X / (V*4294967296^(j+1)))));have G:((mf X V L (m+2) N (j+1)).set 0 ⟨false,0,1,Wm (dg L (X%(V*4294967296^j))),false,161⟩).set 2 ⟨false,0,1,Wm (List.replicate j 0++dg (N+1-j) (X / (V*4294967296^j))),false,161⟩=mf X V L (m+2) N j:=rfl;have H:j<N+1:=by omega
  generalize mf X V L (m+2) N (j+1)=D at *;generalize (D.set 0 ⟨false,0,1,Wm (dg L (X%(V*4294967296^j))),false,161⟩)=D1 at *;generalize mf X V L (m+2) N j=D2 at *;generalize mf X V L (m+2) N 0=D3 at *;generalize dg (N-j) (X / (V*4294967296^(j+1)))=l1 at *;generalize dg (N+1-j) (X / (V*4294967296^j))=l2 at *;obtain⟨o,S,T,W,U,r,q,e1,e2,e3,t,u,v,w,d,R⟩:=T7;rw[<-e2]at l⊢;rw[d];simp only[Tj,R,WR,Xq,reduceIte,Nat.reduceEqDiff,Nat.reduceLeDiff,Zs,x190_1,ai,e,XW,f,y,z,A,B,C,F,H,WG,OG,a,G];exact l
theorem eA {B:Xr}(c:Std B){l:PL}{x:Nat}(s:aY l x)(d:(Xd x).length<9223372036854775808):∃r,Xs B 187 [.one l] (.one r)/\aY r x:=by
 obtain⟨r,b,a⟩:=mE c s d;rw[UG (Xn x) (Xj x)]at a;exact⟨r,b,a⟩
theorem gC {B:Xr}(a:Std B){la lb:PL}{x y:Nat}(k:aY la x)(e:aY lb y)(hx:(Xd x).length<100000000000)(hy:(Xd y).length<100000000000)(D:0<y):
  ∃q r,Xs B 190 [.one la,.one lb] (.XY [.one q,.one r])/\aY q (x / y)/\aY r (x%y):=by
 obtain⟨ra,Z,k⟩:=eA a k (by omega);obtain⟨rb,tb,e⟩:=eA a e (by omega);have I:=Qe a k e (Xn _) (Xn _) (Ws _) (Ws _) (by omega) (by omega);rw[Xj,Xj]at I;by_cases b:x<y
 ·obtain⟨r,G,h2⟩:=O2 a k (by omega);refine⟨.XJ,r,Xs.of (a.X6 _ _ rfl) ((Z.Xi.and (tb.Xi.and (I.Xi.and (G.Xi.and a.Xi)))).mono fun E K ⟨e1,e2,e3,u,c⟩=> ?_),?_,?_⟩
  ·simp only[Xp,Xq,reduceIte,Nat.reduceEqDiff,Nat.reduceLeDiff,x190,c,XW,e1,e2,e3,u,SQ,b]
  ·rw[YJ b];exact aY.zero
  ·rw[Zf b];exact h2
 by_cases G:(Xd y).length=1
 ·obtain⟨Y,J⟩:=Sf.1 G;have hi:(Xd y)[0]? =some y:=by rw[RY Y J];rfl
  have hd:=zZ a k (Xn _) (by omega) Y J;rw[Xj]at hd;have a5:=ZS x D;have hw:=ba a (m:=x%y) (by omega);have P:y%18446744073709551616=y:=Zf (by omega);refine⟨_,_,Xs.of (a.X6 _ _ rfl) ((Z.Xi.and (tb.Xi.and (I.Xi.and (hd.Xi.and (hw.Xi.and a.Xi))))).mono fun E K ⟨e1,e2,e3,u,M,c⟩=> ?_),.Xv,.Xv⟩;simp only[Xp,Xq,reduceIte,Nat.reduceEqDiff,Nat.reduceLeDiff,x190,c,XW,e1,e2,e3,u,M,SQ,b,e.len,G,e.idx hi,P]
 have a8:2<=(Xd y).length:=by
  have :(Xd y).length≠0:=by rw[Ne,WU];omega
  omega
 obtain⟨m,T⟩:∃m,(Xd y).length=m+2:=⟨(Xd y).length-2,by omega⟩;obtain⟨t1,t2,t3,t4⟩:=mG (n:=m+1) T;obtain⟨w,ew⟩:∃w,w=y / 4294967296^(m+1):=⟨_,rfl⟩;rw[<-ew]at t1 t2 t3;obtain⟨l,l1,l2,l3,l4,l5⟩:=DJ a t2 t3;obtain⟨s,es⟩:∃s,s=32-l:=⟨_,rfl⟩;have W:s<32:=by omega
 have t:=BD l1 l2 ew l3 l4;rw[<-es]at t l5;have a7:=XM (Nat.le_of_not_lt b);obtain⟨N,O⟩:∃N,(Xd x).length=N+(m+2):=⟨(Xd x).length-(m+2),by omega⟩;have d:0<2^s:=Nat.pow_pos (by decide);obtain⟨V,v⟩:∃V,V=y*2^s:=⟨_,rfl⟩;obtain⟨X,F⟩:∃X,X=x*2^s:=⟨_,rfl⟩;have f:0<V:=by rw[v];exact Nat.mul_pos D d
 rw[<-v]at t;have g:=t.2;have a0:V<4294967296^(m+2+1):=YB g (Nat.pow_lt_pow_right (by decide) (Nat.lt_succ_self _));have A:X<V*4294967296^(N+1):=by
  have a1:=Te x;rw[O]at a1;have a2:2^s<=2^31:=Nat.pow_le_pow_right (by decide) (by omega);have a3:X<4294967296^(N+(m+2))*2147483648:=by
   rw[F];exact ZW (Yl a1 d) (YH _ a2)
  have a4:=Zo (4294967296^(N+1)) t.1;rw[<-Nat.pow_add,show m+2+(N+1)=(N+(m+2))+1 by omega,ZJ,Yr]at a4;generalize 4294967296^(N+(m+2))=p at *;generalize V*4294967296^(N+1)=z at *;omega
 have C:X / V=x / y:=by rw[F,v,Nat.mul_div_mul_right _ _ d]
 have U:X%V / 2^s=x%y:=by rw[F,v,Nat.mul_mod_mul_right,Nat.mul_div_cancel _ d]
 have Q:X%V<4294967296^(m+2):=YB (ZS _ f) g;have c1:=sn a k (Xn _) (by omega) W [];rw[Xj,<-F,O,Zu,ZO]at c1;have c2:=sn a e (Xn _) (by omega) W [⟨false,0,1,Wm (dg (N+(m+2)+1) X),false,161⟩];rw[Xj,<-v,T,Z2,Z1]at c2;have c3:X0 B fun E _=>∀j,j<N+1->E.heap 207 [.one (.own 0 0 j (m+3)),.one (.own 1 0 0 (m+2))] (mf X V (N+(m+3)) (m+2) N (j+1))=some (.one (.p (.int .u32 (.ofNat (X%(V*4294967296^(j+1)) / 4294967296^j / V)))),(mf X V (N+(m+3)) (m+2) N (j+1)).set 0 ⟨false,0,1,Wm (dg (N+(m+3)) (X%(V*4294967296^j))),false,161⟩):=by
  refine X0.all (N+1) fun j hj=> ?_
  obtain⟨s1,s2,s3⟩:=bM (X:=X) (V:=V) (L:=N+(m+3)) (N:=N) (n:=m+2) (j:=j) (by omega) f g;rw[s2];refine(Ds a (H:=mf X V (N+(m+3)) (m+2) N (j+1)) (iu:=0) (iv:=1) (tu:=161) (tv:=161) (Vw:=dg (m+2+1) V) (by decide) (Wd _ _) (by omega) t s3 (fun i hi=>bS (by omega)) ?_ rfl).Xi;show some (Xz.mk false 0 1 (Wm (dg (N+(m+3)) (X%(V*4294967296^(j+1))))) false 161)=_;rw[s1]
 have c4:=SL a (ws:=dg (N+1) (X / V)) (by rw[Wd];omega);rw[TI (Yj A),C]at c4;have c5:=AX a (la:=.Xv (Ug (dg (m+2) (X%V)))) .Xv (gE _ _) (by rw[Wd];omega) W;rw[ko Q,U]at c5;refine⟨_,_,Xs.of (a.X6 _ _ rfl) ((Z.Xi.and (tb.Xi.and (I.Xi.and (l5.Xi.and (c1.Xi.and (c2.Xi.and (c3.and (c4.Xi.and (c5.Xi.and (a.Xi.and (X0.ge (N+2)))))))))))).mono fun E K ⟨e1,e2,e3,u,M,e6,e7,e8,e9,c,hK⟩=> ?_),.Xv,.Xv⟩;obtain⟨T',o,g2,g3,g4,g5⟩:=tU (K:=K) (s:=s) rfl (by omega) (by omega) c t f e7 (N+1) (Zh _) K (by omega);have d1:mf X V (N+(m+3)) (m+2) N (N+1)=[⟨false,0,1,Wm (dg (N+(m+2)+1) X),false,161⟩,⟨false,0,1,Wm (dg (m+2+1) V),false,161⟩,⟨false,0,1,Wm (List.replicate (N+1) 0),false,161⟩]:=by
  unfold mf;rw[Zf A,YM,show dg 0 (X / (V*4294967296^(N+1)))=[]from rfl,ZN];rfl
 have d2:mf X V (N+(m+3)) (m+2) N 0=[⟨false,0,1,Wm (dg (N+(m+3)) (X%V)),false,161⟩,⟨false,0,1,Wm (dg (m+2+1) V),false,161⟩,⟨false,0,1,Wm (dg (N+1) (X / V)),false,161⟩]:=by
  unfold mf;rw[Nat.pow_zero,Yf];rfl
 rw[d1,d2]at o;have P:Xe .i64 (.ofNat (m+2)-.ofNat 1)=.ofNat (m+1):=by rw[Wh (by omega) (by omega)];rfl
 have f2:Xe .i64 (.ofNat (N+(m+2))-.ofNat (m+2))=.ofNat N:=by rw[Wh (by omega) (by omega),Yb]
 have f3:Xe .i64 (.ofNat (N+1))=.ofNat (N+1):=wrap_i64 (by omega);have f4:4*(N+1)<=lim:=by unfold lim;omega
 have f5:N+1<=9223372036854775807:=by omega
 have f6:(Int.ofNat N:Int)=pI (N+1):=rfl;have n1:¬m+2=1:=by omega
 have n2:m+2<=m+2+1:=by omega
 have n3:m+2<=N+(m+3):=by omega
 have f7:∀h:HF,h 1=some ⟨false,0,1,Wm (dg (m+2+1) V),false,161⟩->WH 1 h (.own 1 0 0 (m+2+1)) 0 (some (m+2))=some (.own 1 0 0 (m+2),[1]):=fun h S=>by
  rw[OF S (by omega) (by omega) rfl];rfl
 have f8:∀h:HF,h 0=some ⟨false,0,1,Wm (dg (N+(m+3)) (X%V)),false,161⟩->WH 1 h (.own 0 0 0 (N+(m+3))) 0 (some (m+2))=some (.own 0 0 0 (m+2),[0]):=fun h S=>by
  rw[OF S (by omega) (by omega) rfl];rfl
 have f9:(Wm (dg (N+(m+3)) (X%V))).take (m+2)=Wm (dg (m+2) (X%V)):=by rw[mi,AP (by omega)]
 rw[C]at o;rw[<-f6]at o;have z1:N+(m+3)=N+(m+2)+1:=rfl;rw[z1]at o f8 f9 g4 n3;obtain⟨cE,lK,oD,oS,oR,dS,dD,Y,J,k3,k4,k5,k6,k7,a6,R⟩:=T7;rw[<-J]at o;simp(decide:=true)only[Tj,R,WR,Xq,reduceIte,Nat.reduceAdd,x190,c,XW,e1,e2,e3,u,M,e6,e8,e9,SQ,b,k.len,e.len,T,O,e.idx t1,P,f2,f3,f4,f5,f7,f8,f9,n1,n3,Zh,UW,o,g2,g3,g4,g5,Vb,Wd,V4,Ul,U2 _ (YN (Wd (N+1) (x / y)))]
theorem nZ {w:Nat}(a:w<4294967296):UC .u64 (Nat.lor (WJ .u64 (.ofNat 0)) (WJ .u64 (.ofNat w)))=.ofNat w:=by
 have e2:WJ .u64 (.ofNat w)=w:=by show w%18446744073709551616=_;omega
 rw[e2];show Int.ofNat (0|||w)=_;rw[Nat.zero_or]
theorem DA {a w:Nat}(b:a<4294967296)(c:w<4294967296):UC .u64 (Nat.lor (WJ .u64 (.ofNat w)) (WJ .u64 (.ofNat (a*4294967296))))=.ofNat (w+4294967296*a):=by
 have e:Nat.lor (WJ .u64 (.ofNat w)) (WJ .u64 (.ofNat (a*4294967296)))=Nat.lor (WJ .u64 (.ofNat (a*4294967296))) (WJ .u64 (.ofNat w)):=Nat.or_comm ..;rw[e,qK b c,YO,ZK]
theorem CI {w:Nat}(a:w<4294967296):NM .u64 (.ofNat w) (.ofNat 0)=some (.p (.int .u64 (.ofNat w))):=by
 have:=Dd (s:=0) a (by decide);rw[this,Nat.pow_zero,Yf]
theorem iO {B:Xr}(o:Std B){l:PL}{f:List Nat}(s:V9 l f)(d:WB f)(V:f.length<=2):Xs B 188 [.one l] (.one (.int .u64 (.ofNat (val f)))):=by
 have x:Xe .i64 (.ofNat (32*0))=.ofNat 0:=rfl;have P:Xe .i64 (.ofNat (32*1))=.ofNat 32:=rfl;have y:Xe .i64 (.ofNat 1)=.ofNat 1:=rfl;have Q:Xe .i64 (.ofNat 2)=.ofNat 2:=rfl
 match f,V with
 |[],_=>
  refine Xs.of (o.X6 _ _ rfl) ((X0.ge 3).mono fun E K z=> ?_);obtain⟨b,rfl⟩:∃b,K=b+3:=⟨K-3,by omega⟩;have e:=s.len;obtain⟨r,L,M,O,N,u,t,C,D,F,G,H,I,J,a,R⟩:=T7;simp only[Tj,R,a,Xq,reduceIte,Nat.reduceEqDiff,Nat.reduceLeDiff,Zv,x188,x188_1,e,val]
 |[w],_=>
  refine Xs.of (o.X6 _ _ rfl) ((X0.ge 3).mono fun E K z=> ?_);obtain⟨b,rfl⟩:∃b,K=b+3:=⟨K-3,by omega⟩;have e:=s.len;have p:=fun h k=>s.idx (h:=h) (k:=k) (i:=0) (w:=w) rfl
  have c:=d.cons.1;have g:w%18446744073709551616=w:=Zf (by omega);have j:val [w]=w:=by simp[val]
  have m:=nZ c;have n:=CI c;rw[j];obtain⟨r,L,M,O,N,u,t,C,D,F,G,H,I,J,a,R⟩:=T7;simp only[Tj,R,a,Xq,reduceIte,Nat.reduceEqDiff,Nat.reduceLeDiff,Nat.reduceLT,Zv,x188,x188_1,e,p,x,y,g,m,n]
 |[w,v],_=>
  refine Xs.of (o.X6 _ _ rfl) ((X0.ge 3).mono fun E K z=> ?_);obtain⟨b,rfl⟩:∃b,K=b+3:=⟨K-3,by omega⟩;have e:=s.len;have p:=fun h k=>s.idx (h:=h) (k:=k) (i:=0) (w:=w) rfl
  have q:=fun h k=>s.idx (h:=h) (k:=k) (i:=1) (w:=v) rfl
  have c:=d.cons.1;have A:=d.cons.2.cons.1;have g:w%18446744073709551616=w:=Zf (by omega);have S:v%18446744073709551616=v:=Zf (by omega);have j:val [w,v]=w+4294967296*v:=by simp[val]
  have m:=nZ c;have n:=CI c;have T:=eS A;have U:=DA A c;rw[j];obtain⟨r,L,M,O,N,u,t,C,D,F,G,H,I,J,a,R⟩:=T7;simp only[Tj,R,a,Xq,reduceIte,Nat.reduceEqDiff,Nat.reduceLeDiff,Nat.reduceLT,Nat.reduceAdd,Zv,x188,x188_1,e,p,q,x,P,y,Q,g,m,n,S,T,U]
theorem oM {E:Xb}{K:Nat}{p:DV}:∀(b a k:Nat) (H:List Xz),b<k->a<18446744073709551616->b<18446744073709551616->
  ∃c,Xc E K 0 [4,7,8] x153_1 k ⟨[(4,p),(7,.one (.p (.int .u64 (.ofNat a)))),(8,.one (.p (.int .u64 (.ofNat b))))],H⟩=some (.exit 2,⟨c,H⟩)/\Xh c 4=some p/\Xh c 7=some (.one (.p (.int .u64 (.ofNat (Nat.gcd a b))))):=by
 intro b;induction b using Nat.strongRecOn with
 |ind b j=>
  intro a k H t r s;obtain⟨k,rfl⟩:∃l,k=l+1:=⟨k-1,by omega⟩;cases b with
  |zero=>
   apply VM
   ·rw[Xc];simp only[Xp,Xq,reduceIte,Nat.reduceEqDiff,x153_1,Zv];rfl
   ·simp only[Xp,reduceIte,Nat.reduceEqDiff,Nat.gcd_zero_right,and_self]
  |succ b=>
   have f:a%(b+1)<b+1:=ZS _ (by omega);obtain⟨c,g,h,i⟩:=j (a%(b+1)) f (b+1) k H (by omega) (by omega) (by omega);have e:Nat.gcd a (b+1)=Nat.gcd (b+1) (a%(b+1)):=by
    rw[Nat.gcd_comm,Nat.gcd_rec];exact Nat.gcd_comm _ _
   refine⟨c,?_,h,by rw[i,e]⟩;obtain⟨n,A,B,D,C,q,o,u,m,v,w,x,y,z,d,R⟩:=T7;rw[<-m]at g⊢;rw[d];simp only[Tj,R,Xq,reduceIte,Nat.reduceEqDiff,x153_1,YF];exact g
abbrev Bl (cs:List DL):Xz:=⟨false,0,2,[cs],false,59⟩
theorem FK {x:Nat}(h:(Xd x).length<=2):x<18446744073709551616:=by
 have:=Te x;have a:=Vj h;simp at a;omega
theorem zx {B:Xr}(i:Std B):∀(y x:Nat) (D F:PL),aY D x->aY F y->(Xd x).length<100000000000->(Xd y).length<100000000000->
  ∃(C:Bool) (r:PL) (c:List PL),aY r (Nat.gcd x y)/\UB c (Nat.gcd x y)/\X0 B fun E K=>∀(k:Nat) (e f:Xz),y<k->
   ∃s,Xc E K 0 [4,5,6] x153_2 k ⟨[(4,.one (.ptr 2 0 0 0)),(5,.one (.p D)),(6,.one (.p F))],[e,f,Bl [.p (.bool false),.p .XJ]]⟩=
    (bif C then some (.ret,⟨s,[e,f,Bl (c.map .p)]⟩)else some (.exit 0,⟨s,[e,f,Bl [.p (.bool false),.p .XJ]]⟩))/\Xh s 4=some (.one (.ptr 2 0 0 0))/\(C=false->Xh s 5=some (.one (.p r))):=by
 intro y;induction y using Nat.strongRecOn with
 |ind y ih=>
  intro x D F u o hx M;obtain⟨G,J,a⟩:=Vi i false (l:=.Xv (Ug (Xd (Nat.gcd x y)))) .Xv (Xn _) (by
   rcases Z8 y with h|h
   ·subst h;rw[Nat.gcd_zero_right];omega
   ·have:=XM (Nat.gcd_le_right x h);omega)
  rw[Xj]at a
  replace a:UB G (Nat.gcd x y):=by simpa using a
  rcases Z8 y with h0|h0
  ·subst h0;refine⟨false,D,G,by rw[Nat.gcd_zero_right];exact u,a,X0.of fun K n k e f S=> ?_⟩;obtain⟨k,rfl⟩:∃w,k=w+1:=⟨k-1,by omega⟩;have g:=o.len;rw[WT]at g;apply VM
   ·obtain⟨O,lK,oD,oS,oR,Q,P,W,z,X,Y,Z,k6,k7,b,R⟩:=T7;rw[<-z,b];simp only[Tj,R,Xq,reduceIte,Nat.reduceEqDiff,x153_2,g,Zv];rfl
   ·simp only[Xp,reduceIte,Nat.reduceEqDiff,forall_const,and_self]
  have m:0<(Xd y).length:=by
   have :(Xd y).length≠0:=by rw[Ne,WU];omega
   omega
  by_cases j:(Xd x).length<=2/\(Xd y).length<=2
  ·
   have v1:=iO i u (Xn x) j.1;have v2:=iO i o (Xn y) j.2;rw[Xj]at v1 v2;have bx:=FK j.1;have v:=FK j.2;have hg:Nat.gcd x y<18446744073709551616:=Z5 (Nat.gcd_le_right x h0) v;have v3:=ba i hg;obtain⟨l1,l2,el⟩:=a.len;refine⟨true,.Xv (Ug (Xd (Nat.gcd x y))),G,.Xv,a,(v1.Xi.and (v2.Xi.and (v3.Xi.and (J.Xi.and (i.Xi.and (X0.ge (y+1))))))).mono fun E K ⟨e1,e2,e3,e4,d,hK⟩ k e f S=> ?_⟩;obtain⟨k,rfl⟩:∃w,k=w+1:=⟨k-1,by omega⟩;obtain⟨T1,t,H,I⟩:=oM (E:=E) (K:=K) (p:=.one (.ptr 2 0 0 0)) y x K [e,f,Bl [.p (.bool false),.p .XJ]] (by omega) bx v;subst el;have A:=j.1;have N:=j.2;apply VM
   ·obtain⟨O,lK,oD,oS,oR,Q,P,W,z,X,Y,Z,k6,k7,b,R⟩:=T7;rw[<-z]at t⊢;rw[b];simp only[Tj,R,Xq,reduceIte,Nat.reduceEqDiff,Nat.reduceLeDiff,x153_2,u.len,o.len,m,A,N,d,XW,e1,e2,e3,e4,t,H,I];rfl
   ·simp only[Xp,reduceIte,Nat.reduceEqDiff,Bool.true_eq_false,false_implies,and_self]
  ·obtain⟨q,r,d1,d2,d3⟩:=gC i u o hx M h0;have T:=ZS x h0;have L:(Xd (x%y)).length<100000000000:=Z5 (XM (Nat.le_of_lt T)) M;obtain⟨rt,r2,c2,U,V,i3⟩:=ih (x%y) T y F r o d3 M L;have eg:Nat.gcd x y=Nat.gcd y (x%y):=by rw[Nat.gcd_comm,Nat.gcd_rec,Nat.gcd_comm]
   rw[<-eg]at U V;refine⟨rt,r2,c2,U,V,(d1.Xi.and (i3.and i.Xi)).mono fun E K ⟨e1,e2,d⟩ k e f S=> ?_⟩;obtain⟨k,rfl⟩:∃w,k=w+1:=⟨k-1,by omega⟩;obtain⟨s,t,H,I⟩:=e2 k e f (by omega);refine⟨s,?_,H,I⟩;obtain⟨O,lK,oD,oS,oR,Q,P,W,z,X,Y,Z,k6,k7,b,R⟩:=T7;rw[<-z]at t⊢;rw[b];by_cases A:(Xd x).length<=2
   ·have N:¬(Xd y).length<=2:=fun h=>j ⟨A,h⟩
    simp only[Tj,R,Xq,reduceIte,Nat.reduceEqDiff,x153_2,u.len,o.len,m,A,N,d,XW,e1];exact t
   ·simp only[Tj,R,Xq,reduceIte,Nat.reduceEqDiff,x153_2,u.len,o.len,m,A,d,XW,e1];exact t
theorem B5 {B:Xr}(a:Std B){c d:List PL}{x y:Int}(O:UB c x)(P:UB d y)(w:Sm x)(z:Sm y):∃e,Xs B 153 [.agg c,.agg d] (.agg e)/\UB e (Nat.gcd x.natAbs y.natAbs):=by
 obtain⟨m,rfl,Q⟩:=O;obtain⟨n,rfl,S⟩:=P;unfold Sm at w z;obtain⟨r1,D,s1⟩:=eA a Q (by omega);obtain⟨r2,F,s2⟩:=eA a S (by omega);obtain⟨u1,u,w1⟩:=O2 a s1 (by omega);obtain⟨u2,v,w2⟩:=O2 a s2 (by omega);obtain⟨rt,r,c,T,A,C⟩:=zx a y.natAbs x.natAbs u1 u2 w1 w2 w z;have s:(Xd (Nat.gcd x.natAbs y.natAbs)).length<1000000000000:=by
  rcases Z8 y.natAbs with h|h
  ·rw[h,Nat.gcd_zero_right];omega
  ·have:=XM (Nat.gcd_le_right x.natAbs h);omega
 cases rt with
 |true=>
  refine⟨c,Xs.of (a.X6 _ _ rfl) ((D.Xi.and (F.Xi.and (u.Xi.and (v.Xi.and (C.and (a.Xi.and (X0.ge (y.natAbs+1)))))))).mono fun E K ⟨e1,e2,e3,j,k,f,N⟩=> ?_),A⟩;obtain⟨G,b,o,i⟩:=k K ⟨false,0,2,[[.p (.bool (decide (x<0))),.p m]],false,59⟩ ⟨false,0,2,[[.p (.bool (decide (y<0))),.p n]],false,59⟩ (by omega);obtain⟨l1,l2,l⟩:=A.len;subst l;rw[cond_true]at b;obtain⟨H,lK,oD,oS,oR,L,J,U,t,V,W,X,Y,Z,q,R⟩:=T7;rw[<-t]at b;simp(decide:=true)only[Tj,R,Xq,reduceIte,Nat.reduceAdd,x153,f,XW,e1,e2,e3,j,b,o]
 |false=>
  obtain⟨c3,I,g⟩:=Vi a false T (Xn _) s;rw[Xj]at g
  replace g:UB c3 (Nat.gcd x.natAbs y.natAbs):=by simpa using g
  refine⟨c3,Xs.of (a.X6 _ _ rfl) ((D.Xi.and (F.Xi.and (u.Xi.and (v.Xi.and (C.and (I.Xi.and (a.Xi.and (X0.ge (y.natAbs+1))))))))).mono fun E K ⟨e1,e2,e3,j,k,M,f,N⟩=> ?_),g⟩;obtain⟨G,b,o,i⟩:=k K ⟨false,0,2,[[.p (.bool (decide (x<0))),.p m]],false,59⟩ ⟨false,0,2,[[.p (.bool (decide (y<0))),.p n]],false,59⟩ (by omega)
  replace i:=i rfl
  obtain⟨l1,l2,l⟩:=g.len;subst l;rw[cond_false]at b;obtain⟨H,lK,oD,oS,oR,L,J,U,t,V,W,X,Y,Z,q,R⟩:=T7;rw[<-t]at b;simp(decide:=true)only[Tj,R,Xq,reduceIte,Nat.reduceAdd,x153,f,XW,e1,e2,e3,j,M,b,o,i]
theorem df (x:Int){y:Int}(j:y≠0):x / y=(if(decide (x<0)!=decide (y<0))=true then -((if x<0/\0<x.natAbs%y.natAbs then x.natAbs / y.natAbs+1 else x.natAbs / y.natAbs:Nat):Int)else((if x<0/\0<x.natAbs%y.natAbs then x.natAbs / y.natAbs+1 else x.natAbs / y.natAbs:Nat):Int))/\
  x%y=((if x<0/\0<x.natAbs%y.natAbs then y.natAbs-x.natAbs%y.natAbs else x.natAbs%y.natAbs:Nat):Int):=by
 have g:0<y.natAbs:=by omega
 have key:∀q r:Int,q*y+r=x->0<=r->r<y.natAbs->x / y=q/\x%y=r:=by
  intro q r k i m;have e1:x%y=r:=by
   rw[<-k,Int.add_comm,Int.add_mul_emod_self_right];rcases Int.lt_or_lt_of_ne j with h|h
   ·rw[<-Int.emod_neg,Int.emod_eq_of_lt i (by omega)]
   ·exact Int.emod_eq_of_lt i (by omega)
  have e2:=Int.mul_ediv_add_emod x y;rw[e1]at e2;refine⟨?_,e1⟩;have :y*(x / y)=y*q:=by rw[Int.mul_comm y q];omega
  exact Int.eq_of_mul_eq_mul_left j this
 have l:=Yw x.natAbs y.natAbs;have n:=ZS x.natAbs g;generalize x.natAbs / y.natAbs=Q at *;generalize x.natAbs%y.natAbs=r at *;have a:(y.natAbs:Int)*(Q:Int)+(r:Int)=(x.natAbs:Int):=by exact_mod_cast l
 by_cases e:x<0<;>by_cases b:y<0
 ·have d:(x.natAbs:Int)= -x:=by omega
  have c:(y.natAbs:Int)= -y:=by omega
  rw[d,c]at a;by_cases f:0<r
  ·simp only[e,b,f,and_self,if_true,decide_true,bne_self_eq_false,Zz,if_false];refine key _ _ ?_ (by omega) (by omega);rw[Int.natCast_sub (by omega),c];push_cast;grind
  ·obtain rfl:r=0:=by omega
   simp only[e,b,Zv,and_false,if_false,decide_true,bne_self_eq_false,Zz];refine key _ _ ?_ (by omega) (by omega);push_cast at a⊢;grind
 ·have d:(x.natAbs:Int)= -x:=by omega
  have c:(y.natAbs:Int)=y:=by omega
  rw[d,c]at a;by_cases f:0<r
  ·simp only[e,b,f,and_self,if_true,decide_true,decide_false,bne_iff_ne,ne_eq,Bool.true_eq_false,not_false_eq_true];refine key _ _ ?_ (by omega) (by omega);rw[Int.natCast_sub (by omega),c];push_cast;grind
  ·obtain rfl:r=0:=by omega
   simp only[e,b,Zv,and_false,if_false,decide_true,decide_false,bne_iff_ne,ne_eq,Bool.true_eq_false,not_false_eq_true,if_true];refine key _ _ ?_ (by omega) (by omega);push_cast at a⊢;grind
 ·have d:(x.natAbs:Int)=x:=by omega
  have c:(y.natAbs:Int)= -y:=by omega
  rw[d,c]at a;simp only[e,b,false_and,if_false,decide_true,decide_false,bne_iff_ne,ne_eq,Zz,not_false_eq_true,if_true];refine key _ _ ?_ (by omega) (by omega);push_cast at a⊢;grind
 ·have d:(x.natAbs:Int)=x:=by omega
  have c:(y.natAbs:Int)=y:=by omega
  rw[d,c]at a;simp only[e,b,false_and,if_false,decide_false,bne_self_eq_false,Zz];refine key _ _ ?_ (by omega) (by omega);push_cast at a⊢;grind
theorem AQ {B:Xr}(a:Std B){l:PL}{x:Nat}(s:aY l x)(b:(Xd x).length<100000000000):Xs B 184 [.one l,.one (.Xv [[.int .u32 (.ofNat 1)]])] (.one (.Xv (Ug (Xd (x+1))))):=by
 have h:=r9 a s (lb:=.Xv (Ug [1])) .Xv (Xn x) (WB.mk (by decide) WB.nil) (by omega) (by decide);rw[Xj]at h;exact h
theorem gB {B:Xr}(a:Std B){c d:List PL}{x y:Int}(Y:UB c x)(Z:UB d y)(H:Sm x)(I:Sm y)(J:y≠0):∃e f,Xs B 154 [.agg c,.agg d] (.XY [.agg e,.agg f,.one (.int .i64 (.ofNat 0))])/\UB e (x / y)/\UB f (x%y):=by
 obtain⟨m,rfl,hm⟩:=Y;obtain⟨n,rfl,G⟩:=Z;unfold Sm at H I;have t:0<y.natAbs:=by omega
 obtain⟨tr,S,M⟩:=eA a G (by omega);have o:(Xd y.natAbs).length≠0:=by rw[Ne,WU];omega
 obtain⟨q,r,N,O,z⟩:=gC a hm G H I t;obtain⟨e1,e2⟩:=df x J;have P:=ZS x.natAbs t;have lq:(Xd (x.natAbs / y.natAbs)).length<100000000000:=Z5 (XM (Nat.div_le_self ..)) H;have lr:(Xd (x.natAbs%y.natAbs)).length<100000000000:=Z5 (XM (Nat.le_of_lt P)) I;by_cases g:x<0/\0<x.natAbs%y.natAbs
 ·have s1:=AQ a O lq;have Q:=gD a G z (Xn _) (Xn _) (XM (Nat.le_of_lt P)) (by omega) (by rw[Xj,Xj];omega);rw[Xj,Xj]at Q;simp only[if_pos g]at e1 e2;have l1:(Xd (x.natAbs / y.natAbs+1)).length<1000000000000:=by
   have:=Uu (x.natAbs / y.natAbs) 1;rw[Sf.2 (by decide:0<1/\1<4294967296)]at this;omega
  have l2:(Xd (y.natAbs-x.natAbs%y.natAbs)).length<1000000000000:=by
   have:=XM (Nat.sub_le y.natAbs (x.natAbs%y.natAbs));omega
  obtain⟨e,C,h⟩:=Vi a (decide (x<0)!=decide (y<0)) (l:=.Xv (Ug (Xd (x.natAbs / y.natAbs+1)))) .Xv (Xn _) l1;obtain⟨f,D,b⟩:=Vi a false (l:=.Xv (Ug (Xd (y.natAbs-x.natAbs%y.natAbs)))) .Xv (Xn _) l2;rw[Xj]at h b;rw[<-e1]at h
  replace b:UB f (x%y):=by rw[e2];simpa using b
  have p:((decide (x<0)==decide (y<0))!=true)=(decide (x<0)!=decide (y<0)):=by cases decide (x<0)<;>cases decide (y<0)<;>rfl
  obtain⟨z1,z2,A⟩:=h.len;obtain⟨z3,z4,k⟩:=b.len;subst A k;have s:=g.1;have L:0<(Xd (x.natAbs%y.natAbs)).length:=by
   have :(Xd (x.natAbs%y.natAbs)).length≠0:=by rw[Ne,WU];omega
   omega
  refine⟨_,_,Xs.of (a.X6 _ _ rfl) ((S.Xi.and (N.Xi.and (s1.Xi.and (Q.Xi.and (C.Xi.and (D.Xi.and a.Xi)))))).mono fun E K ⟨u,v,T,U,j,w,i⟩=> ?_),h,b⟩;simp only[s,decide_true]at j p;obtain⟨V,lK,oD,oS,oR,X,W,k1,k2,k3,k4,k5,k6,k7,F,R⟩:=T7;simp(decide:=true)only[Tj,R,Xq,reduceIte,Nat.reduceAdd,x154,i,XW,u,v,T,U,j,w,M.len,o,s,L,z.len,p]
 ·obtain⟨e,C,h⟩:=Vi a (decide (x<0)!=decide (y<0)) O (Xn _) (by omega);obtain⟨f,D,b⟩:=Vi a false z (Xn _) (by omega);simp only[if_neg g]at e1 e2;rw[Xj]at h b;rw[<-e1]at h
  replace b:UB f (x%y):=by rw[e2];simpa using b
  have p:((decide (x<0)==decide (y<0))!=true)=(decide (x<0)!=decide (y<0)):=by cases decide (x<0)<;>cases decide (y<0)<;>rfl
  obtain⟨z1,z2,A⟩:=h.len;obtain⟨z3,z4,k⟩:=b.len;subst A k;refine⟨_,_,Xs.of (a.X6 _ _ rfl) ((S.Xi.and (N.Xi.and (C.Xi.and (D.Xi.and a.Xi)))).mono fun E K ⟨u,v,j,w,i⟩=> ?_),h,b⟩;obtain⟨V,lK,oD,oS,oR,X,W,k1,k2,k3,k4,k5,k6,k7,F,R⟩:=T7;by_cases s:x<0
  ·have L:¬0<(Xd (x.natAbs%y.natAbs)).length:=by
    have :(Xd (x.natAbs%y.natAbs)).length=0:=by rw[WU];omega
    omega
   simp only[s,decide_true]at j p;simp(decide:=true)only[Tj,R,Xq,reduceIte,Nat.reduceAdd,x154,i,XW,u,v,j,w,M.len,o,s,L,z.len,p]
  ·simp only[s,decide_false]at j p;simp(decide:=true)only[Tj,R,Xq,reduceIte,Nat.reduceAdd,x154,i,XW,u,v,j,w,M.len,o,s,p]
end Go.Proofs.YtefpgecinlekpaaGreat
