/- Package integer: one word of a quotient, in place. -/
import Derived.Test.YtefpgecinlekpaaGreatDiv
import Derived.Test.YtefpgecinlekpaaGreatSort
set_option maxHeartbeats 16000000
set_option maxRecDepth 100000
namespace Go.Num
theorem V9 (V p:Nat)(hp:0<p):V / p*p<=V/\V<(V / p+1)*p:=by
 have h:=Ym V p
 have h2:=ZN V hp
 rw[ZE]at h
 rw[ZJ,Z9];omega
theorem two_words (x m:Nat):x / 4294967296^m=x / 4294967296^(m+1)*4294967296+x / 4294967296^m%4294967296:=by
 rw[ZD,<-YO]
 have:=Ym (x / 4294967296^m) 4294967296
 omega
theorem Vx {x n:Nat}(h:x<4294967296^(n+1)):x / 4294967296^n<4294967296:=Yb (by rw[ZD]at h;exact h)
theorem UG (n:Nat):0<4294967296^n:=Nat.pow_pos (by decide)
theorem lead_half {V m:Nat}(h:Norm V (m+2)):4294967296<=2*(V / 4294967296^(m+1)):=by
 obtain⟨h1,h2⟩:=h
 obtain⟨-,h4⟩:=V9 V _ (UG (m+1))
 rw[show m+2=(m+1)+1 from rfl,ZD]at h1
 generalize V / 4294967296^(m+1)=v at *
 generalize 4294967296^(m+1)=p at *
 rcases Yn (2*v) 4294967296 with h5|h5
 ·exfalso
  have :(v+1)*2<=4294967296:=by omega
  have:=Zn p this
  rw[Nat.mul_right_comm]at this
  rw[ZE p]at h1
  omega
 ·exact h5
theorem top_lt {U V m:Nat}(hU:U<V*4294967296):U / 4294967296^(m+1)<V / 4294967296^(m+1)*4294967296+4294967296:=by
 obtain⟨-,h4⟩:=V9 V _ (UG (m+1))
 apply Yb
 have h5:V*4294967296<(V / 4294967296^(m+1)+1)*4294967296^(m+1)*4294967296:=by omega
 generalize V / 4294967296^(m+1)=v at *
 generalize 4294967296^(m+1)=p at *
 have :(v+1)*p*4294967296=p*(v*4294967296+4294967296):=by rw[ZE (v+1) p,Yj,ZJ,Z9]
 rw[<-this]
 exact Yt hU h5
theorem guess_right {U V m q:Nat}(hN:Norm V (m+2))(hU:U<V*4294967296)(hg:Guess (V / 4294967296^(m+1)) (V / 4294967296^m%4294967296) (U / 4294967296^(m+1)) (U / 4294967296^m%4294967296) q):U / V<=q/\q<=U / V+1:=by
 obtain⟨g1,g2,g3⟩:=hg
 rw[<-two_words,<-two_words]at g2 g3
 obtain⟨a1,a2⟩:=V9 V _ (UG m)
 obtain⟨b1,b2⟩:=V9 U _ (UG m)
 have h1:=hN.1
 rw[ZD,ZD]at h1
 obtain⟨D,hD⟩:∃D,D=4294967295:=⟨_,rfl⟩
 have h2:D*4294967296^m<=V:=by
  generalize 4294967296^m=p at *
  subst hD
  omega
 have h3:U<V*(D+1):=by subst hD;omega
 rw[<-hD]at g3
 exact guess_spec (UG m) a1 a2 b1 b2 h2 (by omega) h3 g2 g3
theorem fin_ok {U V n q Y c b:Nat}(hV0:0<V)(hV:V<4294967296^n)(h:Y+q*V=U%4294967296^n+(c+b)*4294967296^n)(hY:Y<4294967296^n)(hq:q=U / V):U / 4294967296^n=c+b/\Y=U%V:=by
 have h1:=Ym U V
 have h2:=ZN U hV0
 have h3:=Ym U (4294967296^n)
 have h4:=ZN U (UG n)
 rw[<-hq,ZE]at h1
 generalize 4294967296^n=p at *
 generalize U / p=x at *
 generalize U%p=y at *
 generalize U%V=z at *
 generalize q*V=w at *
 have e:Y+p*x=z+(c+b)*p:=by omega
 rw[ZE p]at e
 have :x=c+b:=by
  rcases Nat.lt_trichotomy x (c+b)with hx|hx|hx
  ·have:=Zn p (show x+1<=c+b from hx)
   rw[ZJ]at this;omega
  ·exact hx
  ·have:=Zn p (show c+b+1<=x from hx)
   rw[ZJ]at this;omega
 subst this
 exact⟨rfl,by omega⟩
theorem fin_back {U V n q Y c b:Nat}(hV0:0<V)(hV:V<4294967296^n)(h:Y+q*V=U%4294967296^n+(c+b)*4294967296^n)(hY:Y<4294967296^n)(hq:q=U / V+1):c+b=U / 4294967296^n+1/\Y+V=U%V+4294967296^n:=by
 have h1:=Ym U V
 have h2:=ZN U hV0
 have h3:=Ym U (4294967296^n)
 have h4:=ZN U (UG n)
 rw[hq,ZJ,Z9]at h
 rw[ZE]at h1
 generalize 4294967296^n=p at *
 generalize U / p=x at *
 generalize U%p=y at *
 generalize U%V=z at *
 generalize U / V*V=w at *
 have e:Y+V+p*x=z+(c+b)*p:=by omega
 rw[ZE p]at e
 have :c+b=x+1:=by
  rcases Nat.lt_trichotomy (c+b) (x+1)with hx|hx|hx
  ·have:=Zn p (show c+b<=x by omega)
   omega
  ·exact hx
  ·have:=Zn p (show x+2<=c+b by omega)
   rw[ZJ]at this;omega
 rw[this]at e⊢
 rw[ZJ]at e
 exact⟨rfl,by omega⟩
theorem rest_words {n X:Nat}(h:X<4294967296^n):dg (n+1) X=dg n X++[0]:=by
 rw[dg_snoc,YD h]
end Go.Num
namespace Go.Proofs.YtefpgecinlekpaaGreat
open Go.Ev Go.Num
theorem wrap_u32 (a:Nat):Xd .u32 (.ofNat a)=.ofNat (a%4294967296):=rfl
theorem qw_ret {B:Base}(hB:Std B){H:List Blk}{iu iv j m tu tv:Nat}{low hi Vw:List Nat}{U V:Nat}(hne:iu≠iv)(hlow:low.length=j)(hm:m<100000000000)(hN:Norm V (m+2))(hU:U<V*4294967296)
  (hV:∀i,i<m+2->Vw[i]? =some (V / 4294967296^i%4294967296)) (hu:H[iu]? =some ⟨false,0,1,wsD (low++(dg (m+3) U++hi)),false,tu⟩) (hv:H[iv]? =some ⟨false,0,1,wsD Vw,false,tv⟩):
  Va B 207 [.one (.own iu 0 j (m+3)),.one (.own iv 0 0 (m+2))] H (.one (.p (.int .u32 (.ofNat (U / V))))) (H.set iu ⟨false,0,1,wsD (low++(dg (m+3) (U%V)++hi)),false,tu⟩):=by
 refine Va.of (hB.tab _ _ rfl) (((Evt.ge (m+5)).and hB.evt).mono fun E K ⟨hK,hmd⟩=> ?_)
 have hV0:0<V:=by
  rcases Z0 V with h|h
  ·subst h;omega
  ·exact h
 have hVn:=hN.2
 have hUn:U<4294967296^(m+3):=by
  have:=Ye hVn (show 0<4294967296 by decide)
  rw[<-ZD]at this
  exact Yt hU this
 obtain⟨v1,ev1⟩:∃v1,v1=V / 4294967296^(m+1):=⟨_,rfl⟩
 have bv1:v1<4294967296:=by rw[ev1];exact Vx hVn
 obtain⟨v2,ev2⟩:∃v2,v2=V / 4294967296^m%4294967296:=⟨_,rfl⟩
 have bv2:v2<4294967296:=by rw[ev2];exact ZN _ (by decide)
 obtain⟨un,eun⟩:∃un,un=U / 4294967296^(m+2):=⟨_,rfl⟩
 have bun:un<4294967296:=by rw[eun];exact Vx hUn
 obtain⟨u1,eu1⟩:∃u1,u1=U / 4294967296^(m+1)%4294967296:=⟨_,rfl⟩
 have bu1:u1<4294967296:=by rw[eu1];exact ZN _ (by decide)
 obtain⟨u2,eu2⟩:∃u2,u2=U / 4294967296^m%4294967296:=⟨_,rfl⟩
 have bu2:u2<4294967296:=by rw[eu2];exact ZN _ (by decide)
 obtain⟨top,etop⟩:∃top,top=un*4294967296+u1:=⟨_,rfl⟩
 have etop2:top=U / 4294967296^(m+1):=by rw[etop,eun,eu1];exact(two_words U (m+1)).symm
 have hhalf:=lead_half hN
 have htop:=top_lt (m:=m) hU
 rw[<-ev1]at hhalf htop
 rw[<-etop2]at htop
 have hgv1:Vw[m+1]? =some v1:=by rw[hV (m+1) (by omega),ev1,Zd (Vx hVn)]
 have hgv2:Vw[m]? =some v2:=by rw[hV m (by omega),ev2]
 have hgun:(low++(dg (m+3) U++hi))[j+(m+2)]? =some un:=by rw[blk_get hlow (by omega),eun,Zd (Vx hUn)]
 have hgu1:(low++(dg (m+3) U++hi))[j+(m+1)]? =some u1:=by rw[blk_get hlow (by omega),eu1]
 have hgu2:(low++(dg (m+3) U++hi))[j+m]? =some u2:=by rw[blk_get hlow (by omega),eu2]
 obtain⟨w,rfl⟩:∃w,v1=w+1:=⟨v1-1,by omega⟩
 have hdm:=Ym top (w+1)
 have hmlt:=ZN top (show 0<w+1 by omega)
 obtain⟨q0,eq0⟩:∃q0,q0=top / (w+1):=⟨_,rfl⟩
 obtain⟨r0,er0⟩:∃r0,r0=top%(w+1):=⟨_,rfl⟩
 rw[<-eq0,<-er0]at hdm
 rw[<-er0]at hmlt
 have hq0:q0<=4294967298:=by
  rcases Yn 4294967298 q0 with h|h
  ·exfalso
   have:=Yq (w+1) (show 4294967299<=q0 from h)
   omega
  ·exact h
 have hnext:top*4294967296+u2<(q0+1)*((w+1)*4294967296+v2):=by
  rw[Nat.mul_add,<-Yj]
  have h1:top+1<=(q0+1)*(w+1):=by rw[ZJ,Z9,ZE q0];omega
  have h2:=Zn 4294967296 h1
  have h3:=Zr ((q0+1)*v2)
  omega
 obtain⟨T1,q,a1,⟨a2,a3,a4,a5⟩,a6⟩:=guess_loop (E:=E) (K:=K) hu hv (by omega) hgv1 hgv2 hgu2 bv1 bv2 bu2 htop 2 q0 r0 (by rw[ZE];exact hdm) (by omega) hq0 (by omega) (.inr hnext) K (by omega)
 have bq:q<4294967296:=a6.1
 rw[ev1,ev2,etop2,eu2]at a6
 obtain⟨hq1,hq2⟩:=guess_right hN hU a6
 have hu':H[iu]? =some ⟨false,0,1,wsD (low++[]++(dg (m+2+1) (U / 4294967296^0)++hi)),false,tu⟩:=by
  rw[ZO,Nat.pow_zero,Nat.div_one];exact hu
 obtain⟨T2,yl,c,b,b1,⟨b2,b3,b4,b5,b6,b7⟩,b8,b9,b10,b11,b12⟩:=sub_loop (E:=E) (K:=K) hne hlow (show m+2<1000000000000 by omega) bq hV (m+2) 0 K H [] 0 0 (by omega) (by omega) hu' hv rfl Dig.nil (by decide) (by decide) (by simp[val,Nat.mod_one])
 rw[Zd hVn]at b12
 have hY:val yl<4294967296^(m+2):=by have:=Wf b9;rwa[b8]at this
 have eun1:U / 4294967296^(m+2)%4294967296=un:=by rw[eun,Zd (Vx hUn)]
 have hd1:dg 1 (U / 4294967296^(m+2))++hi=un::hi:=by
  show U / 4294967296^(m+2)%4294967296::hi=_
  rw[eun1]
 rw[hd1]at b1
 have hpl:(low++yl).length=j+(m+2):=by rw[Zm,hlow,b8]
 have s1:Xd .i64 (.ofNat (m+2)-.ofNat 1)=.ofNat (m+1):=by rw[XI (by omega) (by omega)];rfl
 have n1:m+1<m+2:=by omega
 have n2:m+1<m+3:=by omega
 have n3:m+2<m+3:=by omega
 have w1:=XB hgun
 have w2:=XB hgu1
 have w3:=XB hgv1
 have f1:un%18446744073709551616=un:=Zd (by omega)
 have f2:u1%18446744073709551616=u1:=Zd (by omega)
 have f3:(w+1)%18446744073709551616=w+1:=Zd (by omega)
 have o1:=shl64 bun
 have o2:=or64 bun bu1
 rw[<-etop]at o2
 have o3:Ua .u64 (.ofNat top) (.ofNat (w+1))=some (.p (.int .u64 (.ofNat q0))):=by
  show some (DL.p (.int .u64 (Xd .u64 (.ofNat (top / (w+1))))))=_
  rw[<-eq0,wrap_u64,Zd (by omega)]
 have o4:V0 .u64 (.ofNat top) (.ofNat (w+1))=some (.p (.int .u64 (.ofNat r0))):=by rw[er0];rfl
 have w4:=XB (mid_get (low++yl) hi un hpl)
 obtain⟨d1,k1,p1⟩:∃d1,Xd .u64 (.ofNat un-.ofNat c)=.ofNat d1/\d1=(un+(18446744073709551616-c))%18446744073709551616:=⟨_,sub_u64 (by omega),rfl⟩
 obtain⟨d2,k2,p2⟩:∃d2,Xd .u64 (.ofNat d1-.ofNat b)=.ofNat d2/\d2=(d1+(18446744073709551616-b))%18446744073709551616:=⟨_,sub_u64 (by omega),rfl⟩
 have st1:(low++yl++un::hi).set (j+(m+2)) (d2%4294967296)=low++yl++[d2%4294967296]++hi:=mid_set _ _ _ _ hpl
 rcases Yn q (U / V+1)with hcase|hcase
 ·
  have hqe:q=U / V:=by omega
  obtain⟨r1,r2⟩:=fin_ok hV0 hVn b12 hY hqe
  rw[<-eun]at r1
  have hd2:d2=0:=by omega
  have hfin:low++yl++[d2%4294967296]++hi=low++(dg (m+3) (U%V)++hi):=by
   rw[hd2,rest_words (Yt (ZN U hV0) hVn),<-r2,<-V8 b9 b8 rfl]
   simp
  have hz:(d2 / 9223372036854775808=0)=True:=by rw[hd2];simp
  have hqm:q%4294967296=U / V:=by rw[Zd bq];exact hqe
  clear p1 p2 hd2 hnext hdm htop hhalf etop etop2 ev1 ev2 eun eu1 eu2 eq0 er0 r1 r2 hq0
  obtain⟨cE,lK,oD,oS,oR,dS,dD,e1,e2,e3,e4,e5,e6,e7,hL,R⟩:=EVR
  rw[<-e2]at a1 b1
  simp only[EVQ,R,EVH,EVN,reduceIte,Nat.reduceEqDiff,Nat.reduceLeDiff,Nat.reduceAdd,Zr,x207,hu,hv,s1,n1,n2,n3,w1,w2,w3,w4,f1,f2,f3,o1,o2,o3,o4,a1,a2,a3,a4,a5,b1,b2,b3,b4,b5,b6,b7,k1,k2,SX hu,List.set_set,X5,st1,hfin,hz,hqm]
 ·
  have hqe:q=U / V+1:=by omega
  obtain⟨r1,r2⟩:=fin_back hV0 hVn b12 hY hqe
  rw[<-eun]at r1
  have hd2:d2=18446744073709551615:=by omega
  have hz:(d2 / 9223372036854775808=0)=False:=by rw[hd2];simp
  have hu2:(H.set iu ⟨false,0,1,wsD (low++yl++[d2%4294967296]++hi),false,tu⟩)[iu]? =some ⟨false,0,1,wsD (low++[]++(yl.drop 0++(d2%4294967296::hi))),false,tu⟩:=by
   rw[SX hu];simp
  obtain⟨T3,zl,c3,c1,⟨c2,c4,c5,c6⟩,c7,c8,c9,c10⟩:=res_loop (E:=E) (K:=K) (q:=q) hne hlow (show m+2<1000000000000 by omega) b8 b9 hV (m+2) 0 K (H.set iu ⟨false,0,1,wsD (low++yl++[d2%4294967296]++hi),false,tu⟩) [] 0 (by omega) (by omega) hu2 (set_other hne hv) rfl Dig.nil (by decide) (by simp[val,Nat.mod_one])
  rw[Zd hVn,r2]at c10
  have hZ:val zl<4294967296^(m+2):=by have:=Wf c8;rwa[c7]at this
  have hR:=ZN U hV0
  have hc3:c3=1:=by
   rcases Yn c3 1 with h|h
   ·have h0:c3=0:=by omega
    rw[h0,YK,Yu]at c10
    rw[c10]at hZ
    exact absurd hZ (Nat.not_lt.2 (Nat.le_add_left ..))
   ·omega
  have hzl:val zl=U%V:=by rw[hc3,Z9]at c10;exact Nat.add_right_cancel c10
  rw[List.set_set]at c1
  have hpl3:(low++zl).length=j+(m+2):=by rw[Zm,hlow,c7]
  have w5:=XB (mid_get (low++zl) hi (d2%4294967296) hpl3)
  have st2:∀x,(low++zl++d2%4294967296::hi).set (j+(m+2)) x=low++zl++[x]++hi:=fun x=>mid_set _ _ _ _ hpl3
  have hsum:(d2%4294967296+c3%4294967296)%4294967296=0:=by rw[hd2,hc3]
  have hfin:low++zl++[0]++hi=low++(dg (m+3) (U%V)++hi):=by
   rw[rest_words (Yt hR hVn),<-hzl,<-V8 c8 c7 rfl]
   simp
  have hq3:U / V<4294967296:=by rw[hqe]at bq;exact Nat.lt_of_succ_lt bq
  have k3:Xd .u64 (.ofNat q-.ofNat 1)=.ofNat (U / V):=by
   rw[hqe,Um (Nat.le_add_left ..),wrap_u64,Z6,Zd (Yt hq3 (by decide))]
  have hqm:U / V%4294967296=U / V:=Zd hq3
  clear p1 p2 hd2 hnext hdm htop hhalf etop etop2 ev1 ev2 eun eu1 eu2 eq0 er0 r1 r2 hq0
  obtain⟨cE,lK,oD,oS,oR,dS,dD,e1,e2,e3,e4,e5,e6,e7,hL,R⟩:=EVR
  rw[<-e2]at a1 b1 c1
  simp only[EVQ,R,EVH,EVN,reduceIte,Nat.reduceEqDiff,Nat.reduceLeDiff,Nat.reduceAdd,Zr,x207,hu,hv,s1,n1,n2,n3,w1,w2,w3,w4,f1,f2,f3,o1,o2,o3,o4,a1,a2,a3,a4,a5,b1,b2,b3,b4,b5,b6,b7,k1,k2,SX hu,List.set_set,X5,st1,hz,c1,c2,c4,c5,c6,w5,st2,hsum,hfin,k3,hqm]
end Go.Proofs.YtefpgecinlekpaaGreat
namespace Go.Num
def okLen:Nat->List Nat->Bool
 |_,[]=>true
 |i,b::bs=>Nat.ble 1 b&&Nat.ble b 8&&Nat.ble (2^(b-1)) i&&Nat.blt i (2^b)&&okLen (i+1) bs
theorem okLen_get:∀{bs:List Nat} {i k:Nat},okLen i bs=true->k<bs.length->∃b,bs[k]? =some b/\1<=b/\b<=8/\2^(b-1)<=i+k/\i+k<2^b
 |[],_,_,_,hk=>by simp at hk
 |b::bs,i,0,h,_=>by
  simp only[okLen,Zo,Go.Ev.ble_dec,Go.Ev.blt_dec,decide_eq_true_eq]at h
  exact⟨b,rfl,h.1.1.1.1,h.1.1.1.2,h.1.1.2,h.1.2⟩
 |b::bs,i,k+1,h,hk=>by
  simp only[okLen,Zo]at h
  obtain⟨c,h1,h2⟩:=okLen_get (k:=k) h.2 (by simpa using hk)
  exact⟨c,h1,by rw[show i+(k+1)=i+1+k by omega];exact h2⟩
theorem len8_spec {i:Nat}(h0:0<i)(h:i<256):∃b,(0::1::2::2::3::3::3::3::4::4::4::4::4::4::4::4::5::5::5::5::5::5::5::5::5::5::5::5::5::5::5::5::6::6::6::6::6::6::6::6::6::6::6::6::6::6::6::6::6::6::6::6::6::6::6::6::6::6::6::6::6::6::6::6::7::7::7::7::7::7::7::7::7::7::7::7::7::7::7::7::7::7::7::7::7::7::7::7::7::7::7::7::7::7::7::7::7::7::7::7::7::7::7::7::7::7::7::7::7::7::7::7::7::7::7::7::7::7::7::7::7::7::7::7::7::7::7::7::8::8::8::8::8::8::8::8::8::8::8::8::8::8::8::8::8::8::8::8::8::8::8::8::8::8::8::8::8::8::8::8::8::8::8::8::8::8::8::8::8::8::8::8::8::8::8::8::8::8::8::8::8::8::8::8::8::8::8::8::8::8::8::8::8::8::8::8::8::8::8::8::8::8::8::8::8::8::8::8::8::8::8::8::8::8::8::8::8::8::8::8::8::8::8::8::8::8::8::8::8::8::8::8::8::8::8::8::8::8::8::8::8::8::8::8::8::8::8::8::8::8::8::8::8::8::8::8::[])[i]? =some b/\1<=b/\b<=8/\2^(b-1)<=i/\i<2^b:=by
 obtain⟨k,rfl⟩:∃k,i=k+1:=⟨i-1,by omega⟩
 generalize hL:(1::2::2::3::3::3::3::4::4::4::4::4::4::4::4::5::5::5::5::5::5::5::5::5::5::5::5::5::5::5::5::6::6::6::6::6::6::6::6::6::6::6::6::6::6::6::6::6::6::6::6::6::6::6::6::6::6::6::6::6::6::6::6::7::7::7::7::7::7::7::7::7::7::7::7::7::7::7::7::7::7::7::7::7::7::7::7::7::7::7::7::7::7::7::7::7::7::7::7::7::7::7::7::7::7::7::7::7::7::7::7::7::7::7::7::7::7::7::7::7::7::7::7::7::7::7::7::8::8::8::8::8::8::8::8::8::8::8::8::8::8::8::8::8::8::8::8::8::8::8::8::8::8::8::8::8::8::8::8::8::8::8::8::8::8::8::8::8::8::8::8::8::8::8::8::8::8::8::8::8::8::8::8::8::8::8::8::8::8::8::8::8::8::8::8::8::8::8::8::8::8::8::8::8::8::8::8::8::8::8::8::8::8::8::8::8::8::8::8::8::8::8::8::8::8::8::8::8::8::8::8::8::8::8::8::8::8::8::8::8::8::8::8::8::8::8::8::8::8::8::8::8::8::8::8::[])=L
 have hl:L.length=255:=by subst hL;rfl
 have hb:okLen 1 L=true:=by subst hL;rfl
 obtain⟨b,h1,h2,h3,h4,h5⟩:=okLen_get (k:=k) hb (by omega)
 exact⟨b,by simpa using h1,h2,h3,by rw[YI];exact h4,by rw[YI];exact h5⟩
theorem len_up {w k b:Nat}(hb:1<=b)(h1:2^(b-1)<=w / 2^k)(h2:w / 2^k<2^b):2^(k+b-1)<=w/\w<2^(k+b):=by
 have hp:0<2^k:=Nat.pow_pos (by decide)
 obtain⟨a1,a2⟩:=V9 w _ hp
 constructor
 ·rw[show k+b-1=(b-1)+k by omega,Nat.pow_add]
  exact ZC (Zn _ h1) a1
 ·rw[YI,Nat.pow_add]
  exact ZQ a2 (Zn _ h2)
end Go.Num
namespace Go.Proofs.YtefpgecinlekpaaGreat
open Go.Ev Go.Num
theorem len32_ret {B:Base}(hB:Std B){w:Nat}(h0:0<w)(hw:w<4294967296):∃l,1<=l/\l<=32/\2^(l-1)<=w/\w<2^l/\Ret B 168 [.one (.int .u32 (.ofNat w))] (.one (.int .i64 (.ofNat l))):=by
 have q0:∀(E:Oracle) vs,Xr E .indexStr vs=false:=fun _ _=>rfl
 have q1:∀(E:Oracle) (b:Nat) (vs:List DV) (h:HF) (n:Nat),XG E b .indexStr vs h n=W8 vs:=fun _ _ _ _ _=>rfl
 have r1:∀a,Sf .u32 (.ofNat a) (.ofNat 16)=some (.p (.int .u32 (.ofNat (a / 65536)))):=fun _=>rfl
 have r2:∀a,Sf .u32 (.ofNat a) (.ofNat 8)=some (.p (.int .u32 (.ofNat (a / 256)))):=fun _=>rfl
 by_cases h1:65536<=w
 ·by_cases h2:256<=w / 65536
  ·have e:w / 65536 / 256=w / 16777216:=by omega
   obtain⟨b,hb,b1,b2,b3,b4⟩:=len8_spec (i:=w / 65536 / 256) (by omega) (by omega)
   rw[e]at b3 b4
   obtain⟨c1,c2⟩:=len_up (w:=w) (k:=24) b1 b3 b4
   have f0:Xd .i64 (.ofNat b)=.ofNat b:=wrap_i64 (by omega)
   have f1:Xd .i64 (.ofNat (24+b))=.ofNat (24+b):=by first |exact wrap_i64 (by omega)|(rw[ZY];exact wrap_i64 (by omega))
   have f2:Xd .u8 (.ofNat (w / 65536 / 256))=.ofNat (w / 65536 / 256):=wrap_u8 (by omega)
   have f3:Xd .i64 (.ofNat 24)=.ofNat 24:=rfl
   have f4:Xd .i64 (.ofNat 8)=.ofNat 8:=rfl
   have f5:Xd .i64 (.ofNat 16)=.ofNat 16:=rfl
   refine⟨24+b,by omega,by omega,c1,c2,Ret.of (hB.tab _ _ rfl) (hB.evt.mono fun E K hmd=> ?_)⟩
   simp only[EVS,EVN,q0,q1,reduceIte,Nat.reduceEqDiff,Nat.reduceLeDiff,Nat.reduceAdd,x168,h1,h2,r1,r2,idx_of hb,f0,f1,f2,f3]
  ·obtain⟨b,hb,b1,b2,b3,b4⟩:=len8_spec (i:=w / 65536) (by omega) (by omega)
   obtain⟨c1,c2⟩:=len_up (w:=w) (k:=16) b1 b3 b4
   have f0:Xd .i64 (.ofNat b)=.ofNat b:=wrap_i64 (by omega)
   have f1:Xd .i64 (.ofNat (16+b))=.ofNat (16+b):=by first |exact wrap_i64 (by omega)|(rw[ZY];exact wrap_i64 (by omega))
   have f2:Xd .u8 (.ofNat (w / 65536))=.ofNat (w / 65536):=wrap_u8 (by omega)
   have f3:Xd .i64 (.ofNat 24)=.ofNat 24:=rfl
   have f4:Xd .i64 (.ofNat 8)=.ofNat 8:=rfl
   have f5:Xd .i64 (.ofNat 16)=.ofNat 16:=rfl
   refine⟨16+b,by omega,by omega,c1,c2,Ret.of (hB.tab _ _ rfl) (hB.evt.mono fun E K hmd=> ?_)⟩
   simp only[EVS,EVN,q0,q1,reduceIte,Nat.reduceEqDiff,Nat.reduceLeDiff,x168,h1,h2,r1,idx_of hb,f0,f1,f2]
 ·by_cases h2:256<=w
  ·obtain⟨b,hb,b1,b2,b3,b4⟩:=len8_spec (i:=w / 256) (by omega) (by omega)
   obtain⟨c1,c2⟩:=len_up (w:=w) (k:=8) b1 b3 b4
   have f0:Xd .i64 (.ofNat b)=.ofNat b:=wrap_i64 (by omega)
   have f1:Xd .i64 (.ofNat (8+b))=.ofNat (8+b):=by first |exact wrap_i64 (by omega)|(rw[ZY];exact wrap_i64 (by omega))
   have f2:Xd .u8 (.ofNat (w / 256))=.ofNat (w / 256):=wrap_u8 (by omega)
   have f3:Xd .i64 (.ofNat 24)=.ofNat 24:=rfl
   have f4:Xd .i64 (.ofNat 8)=.ofNat 8:=rfl
   have f5:Xd .i64 (.ofNat 16)=.ofNat 16:=rfl
   refine⟨8+b,by omega,by omega,c1,c2,Ret.of (hB.tab _ _ rfl) (hB.evt.mono fun E K hmd=> ?_)⟩
   simp only[EVS,EVN,q0,q1,reduceIte,Nat.reduceEqDiff,Nat.reduceLeDiff,x168,h1,h2,r2,idx_of hb,f0,f1,f2,f4]
  ·obtain⟨b,hb,b1,b2,b3,b4⟩:=len8_spec (i:=w) (by omega) (by omega)
   have c1:2^(b-1)<=w:=b3
   have c2:w<2^b:=b4
   have f0:Xd .i64 (.ofNat b)=.ofNat b:=wrap_i64 (by omega)
   have f1:Xd .i64 (.ofNat (0+b))=.ofNat (b):=by first |exact wrap_i64 (by omega)|(rw[ZY];exact wrap_i64 (by omega))
   have f2:Xd .u8 (.ofNat (w))=.ofNat (w):=wrap_u8 (by omega)
   have f3:Xd .i64 (.ofNat 24)=.ofNat 24:=rfl
   have f4:Xd .i64 (.ofNat 8)=.ofNat 8:=rfl
   have f5:Xd .i64 (.ofNat 16)=.ofNat 16:=rfl
   refine⟨b,by omega,by omega,c1,c2,Ret.of (hB.tab _ _ rfl) (hB.evt.mono fun E K hmd=> ?_)⟩
   simp only[EVS,EVN,q0,q1,reduceIte,Nat.reduceEqDiff,Nat.reduceLeDiff,x168,h1,h2,idx_of hb,f0,f2]
theorem lz_ret {B:Base}(hB:Std B){w:Nat}(h0:0<w)(hw:w<4294967296):∃l,1<=l/\l<=32/\2^(l-1)<=w/\w<2^l/\Ret B 205 [.one (.int .u32 (.ofNat w))] (.one (.int .i64 (.ofNat (32-l)))):=by
 obtain⟨l,h1,h2,h3,h4,h5⟩:=len32_ret hB h0 hw
 refine⟨l,h1,h2,h3,h4,Ret.of (hB.tab _ _ rfl) ((h5.evt.and hB.evt).mono fun E K ⟨e1,hmd⟩=> ?_)⟩
 have f1:Xd .i64 (.ofNat 32-.ofNat l)=.ofNat (32-l):=XI h2 (by decide)
 simp only[EVS,EVN,reduceIte,Nat.reduceEqDiff,Nat.reduceLeDiff,x205,hmd,MDS,e1,f1]
end Go.Proofs.YtefpgecinlekpaaGreat
namespace Go.Num
theorem norm_of {y n l w:Nat}(hl1:1<=l)(hl:l<=32)(hw:w=y / 4294967296^n)(h1:2^(l-1)<=w)(h2:w<2^l):Norm (y*2^(32-l)) (n+1):=by
 obtain⟨a1,a2⟩:=V9 y _ (UG n)
 rw[<-hw]at a1 a2
 have e1:2^(l-1)*2^(32-l)=2147483648:=by
  rw[<-Nat.pow_add,show l-1+(32-l)=31 by omega]
 have e2:2^l*2^(32-l)=4294967296:=by
  rw[<-Nat.pow_add,show l+(32-l)=32 by omega]
 have hp:0<2^(32-l):=Nat.pow_pos (by decide)
 have g1:2147483648<=w*2^(32-l):=by rw[<-e1];exact Zn _ h1
 have g2:(w+1)*2^(32-l)<=4294967296:=by rw[<-e2];exact Zn _ h2
 generalize 2^(32-l)=z at *
 generalize hP:4294967296^n=P at *
 constructor
 ·rw[ZD,hP]
  have:=Zn z a1
  have k:=Zn P g1
  rw[Nat.mul_right_comm]at k
  have e3:2*(y*z)=y*z+y*z:=by omega
  omega
 ·rw[ZD,hP]
  have:=Ye a2 hp
  have k:=Zn P g2
  rw[Nat.mul_right_comm]at k
  rw[ZE P]
  exact ZQ this k
theorem top_word {n y:Nat}(h:(Xc y).length=n+1):(Xc y)[n]? =some (y / 4294967296^n)/\0<y / 4294967296^n/\y / 4294967296^n<4294967296/\4294967296^n<=y:=by
 have e:Xc y=dg (n+1) y:=V8 (Xj y) h (Xg y)
 have h1:=SM (Wh y) (by omega)
 rw[Xg,h,Z6]at h1
 have h2:y<4294967296^(n+1):=by have:=V2 y;rwa[h]at this
 have h3:=Vx h2
 refine⟨?_,Nat.div_pos h1 (UG n),h3,h1⟩
 rw[e,get_dg (by omega),Zd h3]
theorem left_step {X V L N n j:Nat}(hL:L=j+((n+1)+(N-j)))(hV:0<V)(hVn:V<4294967296^n):
  dg L (X%(V*4294967296^(j+1)))=dg j (X%(V*4294967296^(j+1)))++(dg (n+1) (X%(V*4294967296^(j+1)) / 4294967296^j)++List.replicate (N-j) 0)/\
  dg L (X%(V*4294967296^j))=dg j (X%(V*4294967296^(j+1)))++(dg (n+1) (X%(V*4294967296^(j+1)) / 4294967296^j%V)++List.replicate (N-j) 0)/\
  X%(V*4294967296^(j+1)) / 4294967296^j<V*4294967296:=by
 have hp:=UG j
 have hd:V*4294967296^j ∣ V*4294967296^(j+1):=Nat.mul_dvd_mul_left V (by rw[ZD];exact Nat.dvd_mul_right ..)
 have e1:X%(V*4294967296^j)=X%(V*4294967296^(j+1))%(V*4294967296^j):=(Nat.mod_mod_of_dvd X hd).symm
 have hZ:X%(V*4294967296^(j+1))<V*4294967296^(j+1):=ZN _ (Nat.mul_pos hV (UG _))
 rw[e1]
 generalize X%(V*4294967296^(j+1))=Z at *
 have hU:Z / 4294967296^j<V*4294967296:=Yb (by rw[ZD]at hZ;rw[Nat.mul_left_comm];exact hZ)
 have hUn:Z / 4294967296^j<4294967296^(n+1):=by
  have:=Ye hVn (show 0<4294967296 by decide)
  rw[<-ZD]at this
  exact Yt hU this
 have e2:Z%(V*4294967296^j) / 4294967296^j=Z / 4294967296^j%V:=by rw[ZE V,Nat.mod_mul_right_div_self]
 have e3:dg j (Z%(V*4294967296^j))=dg j Z:=dg_same (Nat.mod_mod_of_dvd Z (Nat.dvd_mul_left ..))
 refine⟨?_,?_,hU⟩
 ·rw[hL,Ug,Ug,YD hUn,dg_zero]
 ·rw[hL,Ug,Ug,e2,e3,YD (Yt (ZN _ hV) (Yt hVn (Nat.pow_lt_pow_right (by decide) (Nat.lt_succ_self n)))),dg_zero]
theorem quot_step {X V N j:Nat}(hj:j<=N):X%(V*4294967296^(j+1)) / 4294967296^j / V::dg (N-j) (X / (V*4294967296^(j+1)))=dg (N+1-j) (X / (V*4294967296^j)):=by
 rw[show N+1-j=(N-j)+1 by omega,dg,YO,YO,ZD,<-Yj,ZE (4294967296^j) V,Nat.mod_mul_right_div_self]
end Go.Num
namespace Go.Proofs.YtefpgecinlekpaaGreat
open Go.Ev Go.Num
theorem slice_own {sz id ver off len l u:Nat}{h:HF}{b:Blk}(hb:h id=some b)(h1:l<=u)(h2:u<=len)(hs:b.sz=sz):X6 sz h (.own id ver off len) l (some u)=some (.own id ver (off+l) (u-l),[id]):=by
 simp only[X6,hb,Option.getD_some,T5 h1,T5 h2,Bool.true_or,Bool.true_and,beq_t hs,cond_true]
def dvB (X V L n N i:Nat):List Blk:=[⟨false,0,1,wsD (dg L (X%(V*4294967296^i))),false,161⟩,⟨false,0,1,wsD (dg (n+1) V),false,161⟩,⟨false,0,1,wsD (List.replicate i 0++dg (N+1-i) (X / (V*4294967296^i))),false,161⟩]
theorem dv_loop {E:Oracle}{K:Nat}{X V L m N s:Nat}(hL:L=N+(m+3))(hN:N<100000000000)(hm:m<100000000000)(hmd:E.mode=md)(hV:Norm V (m+2))(hV0:0<V)
  (hq:∀j,j<N+1->E.heap 207 [.one (.own 0 0 j (m+3)),.one (.own 1 0 0 (m+2))] (dvB X V L (m+2) N (j+1))=some (.one (.p (.int .u32 (.ofNat (X%(V*4294967296^(j+1)) / 4294967296^j / V)))),(dvB X V L (m+2) N (j+1)).set 0 ⟨false,0,1,wsD (dg L (X%(V*4294967296^j))),false,161⟩)):
  ∀(i:Nat),i<=N+1->∀k,i<k->∃T',Xa E K 0 [8,9,10,11,12,13] x190_1 k ⟨[(8,.one (.p (.int .i64 (.ofNat (m+2))))),(9,.one (.p (.int .i64 (.ofNat s)))),(10,.one (.own 0 0 0 L)),(11,.one (.own 1 0 0 (m+2))),(12,.one (.own 2 0 0 (N+1))),(13,.one (.p (.int .i64 (pI i))))],dvB X V L (m+2) N i⟩=some (.exit 0,⟨T',dvB X V L (m+2) N 0⟩)/\
   Xf T' 8=some (.one (.p (.int .i64 (.ofNat (m+2)))))/\Xf T' 9=some (.one (.p (.int .i64 (.ofNat s))))/\Xf T' 10=some (.one (.own 0 0 0 L))/\Xf T' 12=some (.one (.own 2 0 0 (N+1)))
 |_,_,0,h=>by omega
 |0,_,k+1,_=>by
  apply ex1
  ·obtain⟨cE,lK,oD,oS,oR,dS,dD,e1,e2,e3,e4,e5,e6,e7,hLo,R⟩:=EVR
   rw[<-e2,hLo]
   simp only[EVQ,R,EVN,reduceIte,Nat.reduceEqDiff,x190_1,pI_zero]
   rfl
  ·simp only[EVS,reduceIte,Nat.reduceEqDiff,and_self]
 |j+1,hj,k+1,hk=>by
  obtain⟨T',g1,g2⟩:=dv_loop hL hN hm hmd hV hV0 hq j (by omega) k (by omega)
  refine⟨T',?_,g2⟩
  have hqj:=hq j (by omega)
  obtain⟨Q,eQ⟩:∃Q,Q=X%(V*4294967296^(j+1)) / 4294967296^j / V:=⟨_,rfl⟩
  have hstep:=quot_step (X:=X) (V:=V) (N:=N) (j:=j) (by omega)
  rw[<-eQ]at hqj hstep
  have f1:Xd .i64 (.ofNat (j+(m+2)))=.ofNat (j+(m+2)):=wrap_i64 (by omega)
  have f2:Xd .i64 (.ofNat (j+(m+2)+1))=.ofNat (j+(m+2)+1):=wrap_i64 (by omega)
  have f3:Xd .i64 (.ofNat j-.ofNat 1)=pI j:=WV (by omega)
  have f4:X6 1 (Xi (dvB X V L (m+2) N (j+1))) (.own 0 0 0 L) j (some (j+(m+2)+1))=some (.own 0 0 j (m+3),[0]):=by
   rw[slice_own (b:=⟨false,0,1,wsD (dg L (X%(V*4294967296^(j+1)))),false,161⟩) rfl (by omega) (by omega) rfl,ZY,show j+(m+2)+1-j=m+3 by omega]
  have f5:((dvB X V L (m+2) N (j+1)).set 0 ⟨false,0,1,wsD (dg L (X%(V*4294967296^j))),false,161⟩)[2]? =some ⟨false,0,1,wsD (List.replicate (j+1) 0++dg (N-j) (X / (V*4294967296^(j+1)))),false,161⟩:=by
   show some (Blk.mk false 0 1 (wsD (List.replicate (j+1) 0++dg (N+1-(j+1)) (X / (V*4294967296^(j+1))))) false 161)=_
   rw[Nat.add_sub_add_right]
  have f6:=XB (get_rep 0 j (dg (N-j) (X / (V*4294967296^(j+1)))))
  have f7:((dvB X V L (m+2) N (j+1)).set 0 ⟨false,0,1,wsD (dg L (X%(V*4294967296^j))),false,161⟩).set 2 ⟨false,0,1,wsD (List.replicate j 0++dg (N+1-j) (X / (V*4294967296^j))),false,161⟩=dvB X V L (m+2) N j:=rfl
  have f8:j<N+1:=by omega
  generalize dvB X V L (m+2) N (j+1)=D at *
  generalize (D.set 0 ⟨false,0,1,wsD (dg L (X%(V*4294967296^j))),false,161⟩)=D1 at *
  generalize dvB X V L (m+2) N j=D2 at *
  generalize dvB X V L (m+2) N 0=D3 at *
  generalize dg (N-j) (X / (V*4294967296^(j+1)))=l1 at *
  generalize dg (N+1-j) (X / (V*4294967296^j))=l2 at *
  obtain⟨cE,lK,oD,oS,oR,dS,dD,e1,e2,e3,e4,e5,e6,e7,hLo,R⟩:=EVR
  rw[<-e2]at g1⊢
  rw[hLo]
  simp only[EVQ,R,EVH,EVN,reduceIte,Nat.reduceEqDiff,Nat.reduceLeDiff,Zr,x190_1,pI_succ,hmd,MDS,hqj,f1,f2,f3,f4,f5,f6,f8,X5,set_rep,hstep,f7]
  exact g1
theorem trim_w {B:Base}(hB:Std B){l:PL}{x:Nat}(s:IsW l x)(hl:(Xc x).length<9223372036854775808):∃r,Ret B 187 [.one l] (.one r)/\IsW r x:=by
 obtain⟨r,h1,h2⟩:=trim_ret hB s hl
 rw[VG (Xj x) (Xg x)]at h2
 exact⟨r,h1,h2⟩
theorem divide_ret {B:Base}(hB:Std B){la lb:PL}{x y:Nat}(sa:IsW la x)(sb:IsW lb y)(hx:(Xc x).length<100000000000)(hy:(Xc y).length<100000000000)(hy0:0<y):
  ∃q r,Ret B 190 [.one la,.one lb] (.tup [.one q,.one r])/\IsW q (x / y)/\IsW r (x%y):=by
 obtain⟨ra,ta,sa⟩:=trim_w hB sa (by omega)
 obtain⟨rb,tb,sb⟩:=trim_w hB sb (by omega)
 have hc:=compare_ret hB sa sb (Xj _) (Xj _) (Wh _) (Wh _) (by omega) (by omega)
 rw[Xg,Xg]at hc
 by_cases hlt:x<y
 ·obtain⟨r,h1,h2⟩:=clone_ret hB sa (by omega)
  refine⟨.nilS,r,Ret.of (hB.tab _ _ rfl) ((ta.evt.and (tb.evt.and (hc.evt.and (h1.evt.and hB.evt)))).mono fun E K ⟨e1,e2,e3,e4,hmd⟩=> ?_),?_,?_⟩
  ·simp only[EVS,EVN,reduceIte,Nat.reduceEqDiff,Nat.reduceLeDiff,x190,hmd,MDS,e1,e2,e3,e4,Ta,hlt]
  ·rw[YD hlt];exact IsW.zero
  ·rw[Zd hlt];exact h2
 by_cases h1:(Xc y).length=1
 ·obtain⟨k1,k2⟩:=Tu.1 h1
  have hi:(Xc y)[0]? =some y:=by rw[words_small k1 k2];rfl
  have hd:=divS_ret hB sa (Xj _) (by omega) k1 k2
  rw[Xg]at hd
  have hmlt:=ZN x hy0
  have hw:=words_ret hB (m:=x%y) (by omega)
  have f1:y%18446744073709551616=y:=Zd (by omega)
  refine⟨_,_,Ret.of (hB.tab _ _ rfl) ((ta.evt.and (tb.evt.and (hc.evt.and (hd.evt.and (hw.evt.and hB.evt))))).mono fun E K ⟨e1,e2,e3,e4,e5,hmd⟩=> ?_),.lst,.lst⟩
  simp only[EVS,EVN,reduceIte,Nat.reduceEqDiff,Nat.reduceLeDiff,x190,hmd,MDS,e1,e2,e3,e4,e5,Ta,hlt,sb.len,h1,sb.idx hi,f1]
 have hly:2<=(Xc y).length:=by
  have :(Xc y).length≠0:=by rw[Ne,Wn];omega
  omega
 obtain⟨m,hm⟩:∃m,(Xc y).length=m+2:=⟨(Xc y).length-2,by omega⟩
 obtain⟨t1,t2,t3,t4⟩:=top_word (n:=m+1) hm
 obtain⟨w,ew⟩:∃w,w=y / 4294967296^(m+1):=⟨_,rfl⟩
 rw[<-ew]at t1 t2 t3
 obtain⟨l,l1,l2,l3,l4,l5⟩:=lz_ret hB t2 t3
 obtain⟨s,es⟩:∃s,s=32-l:=⟨_,rfl⟩
 have hs:s<32:=by omega
 have hN:=norm_of l1 l2 ew l3 l4
 rw[<-es]at hN l5
 have hle:=Xs (Nat.le_of_not_lt hlt)
 obtain⟨N,eN⟩:∃N,(Xc x).length=N+(m+2):=⟨(Xc x).length-(m+2),by omega⟩
 have hp0:0<2^s:=Nat.pow_pos (by decide)
 obtain⟨V,eV⟩:∃V,V=y*2^s:=⟨_,rfl⟩
 obtain⟨X,eX⟩:∃X,X=x*2^s:=⟨_,rfl⟩
 have hV0:0<V:=by rw[eV];exact Nat.mul_pos hy0 hp0
 rw[<-eV]at hN
 have hVn:=hN.2
 have hVn1:V<4294967296^(m+2+1):=Yt hVn (Nat.pow_lt_pow_right (by decide) (Nat.lt_succ_self _))
 have hXV:X<V*4294967296^(N+1):=by
  have a1:=V2 x
  rw[eN]at a1
  have a2:2^s<=2^31:=Nat.pow_le_pow_right (by decide) (by omega)
  have a3:X<4294967296^(N+(m+2))*2147483648:=by
   rw[eX]
   exact ZQ (Ye a1 hp0) (Yq _ a2)
  have a4:=Zn (4294967296^(N+1)) hN.1
  rw[<-Nat.pow_add,show m+2+(N+1)=(N+(m+2))+1 by omega,ZD,Yj]at a4
  generalize 4294967296^(N+(m+2))=p at *
  generalize V*4294967296^(N+1)=z at *
  omega
 have hq1:X / V=x / y:=by rw[eX,eV,Nat.mul_div_mul_right _ _ hp0]
 have hq2:X%V / 2^s=x%y:=by rw[eX,eV,Nat.mul_mod_mul_right,Nat.mul_div_cancel _ hp0]
 have hXm:X%V<4294967296^(m+2):=Yt (ZN _ hV0) hVn
 have c1:=shl_ret hB sa (Xj _) (by omega) hs []
 rw[Xg,<-eX,eN,Zw,ZL]at c1
 have c2:=shl_ret hB sb (Xj _) (by omega) hs [⟨false,0,1,wsD (dg (N+(m+2)+1) X),false,161⟩]
 rw[Xg,<-eV,hm,ZT,ZX]at c2
 have c3:Evt B fun E _=>∀j,j<N+1->E.heap 207 [.one (.own 0 0 j (m+3)),.one (.own 1 0 0 (m+2))] (dvB X V (N+(m+3)) (m+2) N (j+1))=some (.one (.p (.int .u32 (.ofNat (X%(V*4294967296^(j+1)) / 4294967296^j / V)))),(dvB X V (N+(m+3)) (m+2) N (j+1)).set 0 ⟨false,0,1,wsD (dg (N+(m+3)) (X%(V*4294967296^j))),false,161⟩):=by
  refine Evt.all (N+1) fun j hj=> ?_
  obtain⟨s1,s2,s3⟩:=left_step (X:=X) (V:=V) (L:=N+(m+3)) (N:=N) (n:=m+2) (j:=j) (by omega) hV0 hVn
  rw[s2]
  refine(qw_ret hB (H:=dvB X V (N+(m+3)) (m+2) N (j+1)) (iu:=0) (iv:=1) (tu:=161) (tv:=161) (Vw:=dg (m+2+1) V) (by decide) (XH _ _) (by omega) hN s3 (fun i hi=>get_dg (by omega)) ?_ rfl).evt
  show some (Blk.mk false 0 1 (wsD (dg (N+(m+3)) (X%(V*4294967296^(j+1))))) false 161)=_
  rw[s1]
 have c4:=U2 hB (ws:=dg (N+1) (X / V)) (by rw[XH];omega)
 rw[Ul (Yb hXV),hq1]at c4
 have c5:=shr_ret hB (la:=.lst (wsP (dg (m+2) (X%V)))) .lst (dg_dig _ _) (by rw[XH];omega) hs
 rw[val_dg hXm,hq2]at c5
 refine⟨_,_,Ret.of (hB.tab _ _ rfl) ((ta.evt.and (tb.evt.and (hc.evt.and (l5.evt.and (c1.evt.and (c2.evt.and (c3.and (c4.evt.and (c5.evt.and (hB.evt.and (Evt.ge (N+2)))))))))))).mono fun E K ⟨e1,e2,e3,e4,e5,e6,e7,e8,e9,hmd,hK⟩=> ?_),.lst,.lst⟩
 obtain⟨T',g1,g2,g3,g4,g5⟩:=dv_loop (K:=K) (s:=s) rfl (by omega) (by omega) hmd hN hV0 e7 (N+1) (Zg _) K (by omega)
 have d1:dvB X V (N+(m+3)) (m+2) N (N+1)=[⟨false,0,1,wsD (dg (N+(m+2)+1) X),false,161⟩,⟨false,0,1,wsD (dg (m+2+1) V),false,161⟩,⟨false,0,1,wsD (List.replicate (N+1) 0),false,161⟩]:=by
  unfold dvB
  rw[Zd hXV,YN,show dg 0 (X / (V*4294967296^(N+1)))=[]from rfl,ZO]
  rfl
 have d2:dvB X V (N+(m+3)) (m+2) N 0=[⟨false,0,1,wsD (dg (N+(m+3)) (X%V)),false,161⟩,⟨false,0,1,wsD (dg (m+2+1) V),false,161⟩,⟨false,0,1,wsD (dg (N+1) (X / V)),false,161⟩]:=by
  unfold dvB
  rw[Nat.pow_zero,Yd]
  rfl
 rw[d1,d2]at g1
 have f1:Xd .i64 (.ofNat (m+2)-.ofNat 1)=.ofNat (m+1):=by rw[XI (by omega) (by omega)];rfl
 have f2:Xd .i64 (.ofNat (N+(m+2))-.ofNat (m+2))=.ofNat N:=by rw[XI (by omega) (by omega),Z6]
 have f3:Xd .i64 (.ofNat (N+1))=.ofNat (N+1):=wrap_i64 (by omega)
 have f4:4*(N+1)<=lim:=by unfold lim;omega
 have f5:N+1<=9223372036854775807:=by omega
 have f6:(Int.ofNat N:Int)=pI (N+1):=rfl
 have n1:¬m+2=1:=by omega
 have n2:m+2<=m+2+1:=by omega
 have n3:m+2<=N+(m+3):=by omega
 have f7:∀h:HF,h 1=some ⟨false,0,1,wsD (dg (m+2+1) V),false,161⟩->X6 1 h (.own 1 0 0 (m+2+1)) 0 (some (m+2))=some (.own 1 0 0 (m+2),[1]):=fun h hh=>by
  rw[slice_own hh (by omega) (by omega) rfl];rfl
 have f8:∀h:HF,h 0=some ⟨false,0,1,wsD (dg (N+(m+3)) (X%V)),false,161⟩->X6 1 h (.own 0 0 0 (N+(m+3))) 0 (some (m+2))=some (.own 0 0 0 (m+2),[0]):=fun h hh=>by
  rw[slice_own hh (by omega) (by omega) rfl];rfl
 have f9:(wsD (dg (N+(m+3)) (X%V))).take (m+2)=wsD (dg (m+2) (X%V)):=by rw[wsD_take,take_dg (by omega)]
 rw[hq1]at g1
 rw[<-f6]at g1
 have z1:N+(m+3)=N+(m+2)+1:=rfl
 rw[z1]at g1 f8 f9 g4 n3
 obtain⟨cE,lK,oD,oS,oR,dS,dD,k1,k2,k3,k4,k5,k6,k7,hLo,R⟩:=EVR
 rw[<-k2]at g1
 simp(decide:=true)only[EVQ,R,EVH,EVN,reduceIte,Nat.reduceAdd,x190,hmd,MDS,e1,e2,e3,e4,e5,e6,e8,e9,Ta,hlt,sa.len,sb.len,hm,eN,sb.idx t1,f1,f2,f3,f4,f5,f7,f8,f9,n1,n3,Zg,VU,g1,g2,g3,g4,g5,Ws,XH,Vb,Vl,VY _ (YG (XH (N+1) (x / y)))]
theorem lor_zero {w:Nat}(hw:w<4294967296):VA .u64 (Nat.lor (X7 .u64 (.ofNat 0)) (X7 .u64 (.ofNat w)))=.ofNat w:=by
 have e2:X7 .u64 (.ofNat w)=w:=by show w%18446744073709551616=_;omega
 rw[e2]
 show Int.ofNat (0|||w)=_
 rw[Nat.zero_or]
theorem or_low {a w:Nat}(ha:a<4294967296)(hw:w<4294967296):VA .u64 (Nat.lor (X7 .u64 (.ofNat w)) (X7 .u64 (.ofNat (a*4294967296))))=.ofNat (w+4294967296*a):=by
 have e:Nat.lor (X7 .u64 (.ofNat w)) (X7 .u64 (.ofNat (a*4294967296)))=Nat.lor (X7 .u64 (.ofNat (a*4294967296))) (X7 .u64 (.ofNat w)):=Nat.or_comm ..
 rw[e,or64 ha hw,YI,ZE]
theorem shl_0 {w:Nat}(hw:w<4294967296):binShl .u64 (.ofNat w) (.ofNat 0)=some (.p (.int .u64 (.ofNat w))):=by
 have:=shlN (s:=0) hw (by decide)
 rw[this,Nat.pow_zero,Yd]
theorem value_ret {B:Base}(hB:Std B){l:PL}{ws:List Nat}(s:SlW l ws)(d:Dig ws)(hl:ws.length<=2):Ret B 188 [.one l] (.one (.int .u64 (.ofNat (val ws)))):=by
 have f0:Xd .i64 (.ofNat (32*0))=.ofNat 0:=rfl
 have f1:Xd .i64 (.ofNat (32*1))=.ofNat 32:=rfl
 have f2:Xd .i64 (.ofNat 1)=.ofNat 1:=rfl
 have f3:Xd .i64 (.ofNat 2)=.ofNat 2:=rfl
 match ws,hl with
 |[],_=>
  refine Ret.of (hB.tab _ _ rfl) ((Evt.ge 3).mono fun E K hK=> ?_)
  obtain⟨K',rfl⟩:∃K',K=K'+3:=⟨K-3,by omega⟩
  have hs:=s.len
  obtain⟨cE,lK,oD,oS,oR,dS,dD,k1,k2,k3,k4,k5,k6,k7,hLo,R⟩:=EVR
  simp only[EVQ,R,hLo,EVN,reduceIte,Nat.reduceEqDiff,Nat.reduceLeDiff,ZA,x188,x188_1,hs,val]
 |[w],_=>
  refine Ret.of (hB.tab _ _ rfl) ((Evt.ge 3).mono fun E K hK=> ?_)
  obtain⟨K',rfl⟩:∃K',K=K'+3:=⟨K-3,by omega⟩
  have hs:=s.len
  have hi:=fun h k=>s.idx (h:=h) (k:=k) (i:=0) (w:=w) rfl
  have hw:=d.cons.1
  have g1:w%18446744073709551616=w:=Zd (by omega)
  have g2:val [w]=w:=by simp[val]
  have g3:=lor_zero hw
  have g4:=shl_0 hw
  rw[g2]
  obtain⟨cE,lK,oD,oS,oR,dS,dD,k1,k2,k3,k4,k5,k6,k7,hLo,R⟩:=EVR
  simp only[EVQ,R,hLo,EVN,reduceIte,Nat.reduceEqDiff,Nat.reduceLeDiff,Nat.reduceLT,ZA,x188,x188_1,hs,hi,f0,f2,g1,g3,g4]
 |[w,v],_=>
  refine Ret.of (hB.tab _ _ rfl) ((Evt.ge 3).mono fun E K hK=> ?_)
  obtain⟨K',rfl⟩:∃K',K=K'+3:=⟨K-3,by omega⟩
  have hs:=s.len
  have hi:=fun h k=>s.idx (h:=h) (k:=k) (i:=0) (w:=w) rfl
  have hi1:=fun h k=>s.idx (h:=h) (k:=k) (i:=1) (w:=v) rfl
  have hw:=d.cons.1
  have hv:=d.cons.2.cons.1
  have g1:w%18446744073709551616=w:=Zd (by omega)
  have g5:v%18446744073709551616=v:=Zd (by omega)
  have g2:val [w,v]=w+4294967296*v:=by simp[val]
  have g3:=lor_zero hw
  have g4:=shl_0 hw
  have g6:=shl64 hv
  have g7:=or_low hv hw
  rw[g2]
  obtain⟨cE,lK,oD,oS,oR,dS,dD,k1,k2,k3,k4,k5,k6,k7,hLo,R⟩:=EVR
  simp only[EVQ,R,hLo,EVN,reduceIte,Nat.reduceEqDiff,Nat.reduceLeDiff,Nat.reduceLT,Nat.reduceAdd,ZA,x188,x188_1,hs,hi,hi1,f0,f1,f2,f3,g1,g3,g4,g5,g6,g7]
theorem euclid_loop {E:Oracle}{K:Nat}{p:DV}:∀(b a k:Nat) (H:List Blk),b<k->a<18446744073709551616->b<18446744073709551616->
  ∃T',Xa E K 0 [4,7,8] x153_1 k ⟨[(4,p),(7,.one (.p (.int .u64 (.ofNat a)))),(8,.one (.p (.int .u64 (.ofNat b))))],H⟩=some (.exit 2,⟨T',H⟩)/\Xf T' 4=some p/\Xf T' 7=some (.one (.p (.int .u64 (.ofNat (Nat.gcd a b))))):=by
 intro b
 induction b using Nat.strongRecOn with
 |ind b ih=>
  intro a k H hk ha hb
  obtain⟨k,rfl⟩:∃k',k=k'+1:=⟨k-1,by omega⟩
  cases b with
  |zero=>
   apply ex1
   ·rw[Xa]
    simp only[EVS,EVN,reduceIte,Nat.reduceEqDiff,x153_1,ZA]
    rfl
   ·simp only[EVS,reduceIte,Nat.reduceEqDiff,Nat.gcd_zero_right,and_self]
  |succ b=>
   have hlt:a%(b+1)<b+1:=ZN _ (by omega)
   obtain⟨T',g1,g2,g3⟩:=ih (a%(b+1)) hlt (b+1) k H (by omega) (by omega) (by omega)
   have e:Nat.gcd a (b+1)=Nat.gcd (b+1) (a%(b+1)):=by
    rw[Nat.gcd_comm,Nat.gcd_rec];exact Nat.gcd_comm _ _
   refine⟨T',?_,g2,by rw[g3,e]⟩
   obtain⟨cE,lK,oD,oS,oR,dS,dD,k1,k2,k3,k4,k5,k6,k7,hLo,R⟩:=EVR
   rw[<-k2]at g1⊢
   rw[hLo]
   simp only[EVQ,R,EVN,reduceIte,Nat.reduceEqDiff,x153_1,YA]
   exact g1
abbrev resB (cs:List DL):Blk:=⟨false,0,2,[cs],false,59⟩
theorem w64 {x:Nat}(h:(Xc x).length<=2):x<18446744073709551616:=by
 have:=V2 x
 have h2:=WA h
 simp at h2;omega
theorem gcd_loop {B:Base}(hB:Std B):∀(y x:Nat) (lx ly:PL),IsW lx x->IsW ly y->(Xc x).length<100000000000->(Xc y).length<100000000000->
  ∃(ret:Bool) (r:PL) (c:List PL),IsW r (Nat.gcd x y)/\IsI c (Nat.gcd x y)/\Evt B fun E K=>∀(k:Nat) (b0 b1:Blk),y<k->
   ∃T',Xa E K 0 [4,5,6] x153_2 k ⟨[(4,.one (.ptr 2 0 0 0)),(5,.one (.p lx)),(6,.one (.p ly))],[b0,b1,resB [.p (.bool false),.p .nilS]]⟩=
    (bif ret then some (.ret,⟨T',[b0,b1,resB (c.map .p)]⟩)else some (.exit 0,⟨T',[b0,b1,resB [.p (.bool false),.p .nilS]]⟩))/\Xf T' 4=some (.one (.ptr 2 0 0 0))/\(ret=false->Xf T' 5=some (.one (.p r))):=by
 intro y
 induction y using Nat.strongRecOn with
 |ind y ih=>
  intro x lx ly sx sy hx hy
  obtain⟨cg,hcg,icg⟩:=Wz hB false (l:=.lst (wsP (Xc (Nat.gcd x y)))) .lst (Xj _) (by
   rcases Z0 y with h|h
   ·subst h;rw[Nat.gcd_zero_right];omega
   ·have:=Xs (Nat.gcd_le_right x h);omega)
  rw[Xg]at icg
  replace icg:IsI cg (Nat.gcd x y):=by simpa using icg
  rcases Z0 y with h0|h0
  ·subst h0
   refine⟨false,lx,cg,by rw[Nat.gcd_zero_right];exact sx,icg,Evt.of fun K n k b0 b1 hk=> ?_⟩
   obtain⟨k,rfl⟩:∃k',k=k'+1:=⟨k-1,by omega⟩
   have hlen:=sy.len
   rw[Wm]at hlen
   apply ex1
   ·obtain⟨cE,lK,oD,oS,oR,dS,dD,k1,k2,k3,k4,k5,k6,k7,hLo,R⟩:=EVR
    rw[<-k2,hLo]
    simp only[EVQ,R,EVN,reduceIte,Nat.reduceEqDiff,x153_2,hlen,ZA]
    rfl
   ·simp only[EVS,reduceIte,Nat.reduceEqDiff,forall_const,and_self]
  have hly:0<(Xc y).length:=by
   have :(Xc y).length≠0:=by rw[Ne,Wn];omega
   omega
  by_cases hb:(Xc x).length<=2/\(Xc y).length<=2
  ·
   have v1:=value_ret hB sx (Xj x) hb.1
   have v2:=value_ret hB sy (Xj y) hb.2
   rw[Xg]at v1 v2
   have bx:=w64 hb.1
   have by':=w64 hb.2
   have hg:Nat.gcd x y<18446744073709551616:=Z5 (Nat.gcd_le_right x h0) by'
   have v3:=words_ret hB hg
   obtain⟨l1,l2,el⟩:=icg.len
   refine⟨true,.lst (wsP (Xc (Nat.gcd x y))),cg,.lst,icg,(v1.evt.and (v2.evt.and (v3.evt.and (hcg.evt.and (hB.evt.and (Evt.ge (y+1))))))).mono fun E K ⟨e1,e2,e3,e4,hmd,hK⟩ k b0 b1 hk=> ?_⟩
   obtain⟨k,rfl⟩:∃k',k=k'+1:=⟨k-1,by omega⟩
   obtain⟨T1,g1,g2,g3⟩:=euclid_loop (E:=E) (K:=K) (p:=.one (.ptr 2 0 0 0)) y x K [b0,b1,resB [.p (.bool false),.p .nilS]] (by omega) bx by'
   subst el
   have q1:=hb.1
   have q2:=hb.2
   apply ex1
   ·obtain⟨cE,lK,oD,oS,oR,dS,dD,k1,k2,k3,k4,k5,k6,k7,hLo,R⟩:=EVR
    rw[<-k2]at g1⊢
    rw[hLo]
    simp only[EVQ,R,EVN,reduceIte,Nat.reduceEqDiff,Nat.reduceLeDiff,x153_2,sx.len,sy.len,hly,q1,q2,hmd,MDS,e1,e2,e3,e4,g1,g2,g3]
    rfl
   ·simp only[EVS,reduceIte,Nat.reduceEqDiff,Bool.true_eq_false,false_implies,and_self]
  ·obtain⟨q,r,d1,d2,d3⟩:=divide_ret hB sx sy hx hy h0
   have hr:=ZN x h0
   have hlr:(Xc (x%y)).length<100000000000:=Z5 (Xs (Nat.le_of_lt hr)) hy
   obtain⟨rt,r2,c2,i1,i2,i3⟩:=ih (x%y) hr y ly r sy d3 hy hlr
   have eg:Nat.gcd x y=Nat.gcd y (x%y):=by rw[Nat.gcd_comm,Nat.gcd_rec,Nat.gcd_comm]
   rw[<-eg]at i1 i2
   refine⟨rt,r2,c2,i1,i2,(d1.evt.and (i3.and hB.evt)).mono fun E K ⟨e1,e2,hmd⟩ k b0 b1 hk=> ?_⟩
   obtain⟨k,rfl⟩:∃k',k=k'+1:=⟨k-1,by omega⟩
   obtain⟨T',g1,g2,g3⟩:=e2 k b0 b1 (by omega)
   refine⟨T',?_,g2,g3⟩
   obtain⟨cE,lK,oD,oS,oR,dS,dD,k1,k2,k3,k4,k5,k6,k7,hLo,R⟩:=EVR
   rw[<-k2]at g1⊢
   rw[hLo]
   by_cases q1:(Xc x).length<=2
   ·have q2:¬(Xc y).length<=2:=fun h=>hb ⟨q1,h⟩
    simp only[EVQ,R,EVN,reduceIte,Nat.reduceEqDiff,x153_2,sx.len,sy.len,hly,q1,q2,hmd,MDS,e1]
    exact g1
   ·simp only[EVQ,R,EVN,reduceIte,Nat.reduceEqDiff,x153_2,sx.len,sy.len,hly,q1,hmd,MDS,e1]
    exact g1
theorem gcd_ret {B:Base}(hB:Std B){c d:List PL}{x y:Int}(hc:IsI c x)(hd:IsI d y)(hx:Sm x)(hy:Sm y):∃e,Ret B 153 [.agg c,.agg d] (.agg e)/\IsI e (Nat.gcd x.natAbs y.natAbs):=by
 obtain⟨m,rfl,hm⟩:=hc
 obtain⟨n,rfl,hn⟩:=hd
 unfold Sm at hx hy
 obtain⟨r1,t1,s1⟩:=trim_w hB hm (by omega)
 obtain⟨r2,t2,s2⟩:=trim_w hB hn (by omega)
 obtain⟨u1,c1,w1⟩:=clone_ret hB s1 (by omega)
 obtain⟨u2,c2,w2⟩:=clone_ret hB s2 (by omega)
 obtain⟨rt,r,c,i1,i2,i3⟩:=gcd_loop hB y.natAbs x.natAbs u1 u2 w1 w2 hx hy
 have hlg:(Xc (Nat.gcd x.natAbs y.natAbs)).length<1000000000000:=by
  rcases Z0 y.natAbs with h|h
  ·rw[h,Nat.gcd_zero_right];omega
  ·have:=Xs (Nat.gcd_le_right x.natAbs h);omega
 cases rt with
 |true=>
  refine⟨c,Ret.of (hB.tab _ _ rfl) ((t1.evt.and (t2.evt.and (c1.evt.and (c2.evt.and (i3.and (hB.evt.and (Evt.ge (y.natAbs+1)))))))).mono fun E K ⟨e1,e2,e3,e4,e5,hmd,hK⟩=> ?_),i2⟩
  obtain⟨T',g1,g2,g3⟩:=e5 K ⟨false,0,2,[[.p (.bool (decide (x<0))),.p m]],false,59⟩ ⟨false,0,2,[[.p (.bool (decide (y<0))),.p n]],false,59⟩ (by omega)
  obtain⟨l1,l2,el⟩:=i2.len
  subst el
  rw[cond_true]at g1
  obtain⟨cE,lK,oD,oS,oR,dS,dD,k1,k2,k3,k4,k5,k6,k7,hLo,R⟩:=EVR
  rw[<-k2]at g1
  simp(decide:=true)only[EVQ,R,EVN,reduceIte,Nat.reduceAdd,x153,hmd,MDS,e1,e2,e3,e4,g1,g2]
 |false=>
  obtain⟨c3,d1,d2⟩:=Wz hB false i1 (Xj _) hlg
  rw[Xg]at d2
  replace d2:IsI c3 (Nat.gcd x.natAbs y.natAbs):=by simpa using d2
  refine⟨c3,Ret.of (hB.tab _ _ rfl) ((t1.evt.and (t2.evt.and (c1.evt.and (c2.evt.and (i3.and (d1.evt.and (hB.evt.and (Evt.ge (y.natAbs+1))))))))).mono fun E K ⟨e1,e2,e3,e4,e5,e6,hmd,hK⟩=> ?_),d2⟩
  obtain⟨T',g1,g2,g3⟩:=e5 K ⟨false,0,2,[[.p (.bool (decide (x<0))),.p m]],false,59⟩ ⟨false,0,2,[[.p (.bool (decide (y<0))),.p n]],false,59⟩ (by omega)
  replace g3:=g3 rfl
  obtain⟨l1,l2,el⟩:=d2.len
  subst el
  rw[cond_false]at g1
  obtain⟨cE,lK,oD,oS,oR,dS,dD,k1,k2,k3,k4,k5,k6,k7,hLo,R⟩:=EVR
  rw[<-k2]at g1
  simp(decide:=true)only[EVQ,R,EVN,reduceIte,Nat.reduceAdd,x153,hmd,MDS,e1,e2,e3,e4,e6,g1,g2,g3]
theorem emod_natAbs (x:Int){y:Int}(hy:y≠0):x / y=(if(decide (x<0)!=decide (y<0))=true then -((if x<0/\0<x.natAbs%y.natAbs then x.natAbs / y.natAbs+1 else x.natAbs / y.natAbs:Nat):Int)else((if x<0/\0<x.natAbs%y.natAbs then x.natAbs / y.natAbs+1 else x.natAbs / y.natAbs:Nat):Int))/\
  x%y=((if x<0/\0<x.natAbs%y.natAbs then y.natAbs-x.natAbs%y.natAbs else x.natAbs%y.natAbs:Nat):Int):=by
 have hy0:0<y.natAbs:=by omega
 have key:∀q r:Int,q*y+r=x->0<=r->r<y.natAbs->x / y=q/\x%y=r:=by
  intro q r h1 h2 h3
  have e1:x%y=r:=by
   rw[<-h1,Int.add_comm,Int.add_mul_emod_self_right]
   rcases Int.lt_or_lt_of_ne hy with h|h
   ·rw[<-Int.emod_neg,Int.emod_eq_of_lt h2 (by omega)]
   ·exact Int.emod_eq_of_lt h2 (by omega)
  have e2:=Int.mul_ediv_add_emod x y
  rw[e1]at e2
  refine⟨?_,e1⟩
  have :y*(x / y)=y*q:=by rw[Int.mul_comm y q];omega
  exact Int.eq_of_mul_eq_mul_left hy this
 have hd:=Ym x.natAbs y.natAbs
 have hm:=ZN x.natAbs hy0
 generalize x.natAbs / y.natAbs=Q at *
 generalize x.natAbs%y.natAbs=r at *
 have hd':(y.natAbs:Int)*(Q:Int)+(r:Int)=(x.natAbs:Int):=by exact_mod_cast hd
 by_cases hx:x<0<;>by_cases hyn:y<0
 ·have ex:(x.natAbs:Int)= -x:=by omega
  have ey:(y.natAbs:Int)= -y:=by omega
  rw[ex,ey]at hd'
  by_cases hr:0<r
  ·simp only[hx,hyn,hr,and_self,if_true,decide_true,bne_self_eq_false,Zs,if_false]
   refine key _ _ ?_ (by omega) (by omega)
   rw[Int.natCast_sub (by omega),ey];push_cast;grind
  ·obtain rfl:r=0:=by omega
   simp only[hx,hyn,ZA,and_false,if_false,decide_true,bne_self_eq_false,Zs]
   refine key _ _ ?_ (by omega) (by omega)
   push_cast at hd'⊢;grind
 ·have ex:(x.natAbs:Int)= -x:=by omega
  have ey:(y.natAbs:Int)=y:=by omega
  rw[ex,ey]at hd'
  by_cases hr:0<r
  ·simp only[hx,hyn,hr,and_self,if_true,decide_true,decide_false,bne_iff_ne,ne_eq,Bool.true_eq_false,not_false_eq_true]
   refine key _ _ ?_ (by omega) (by omega)
   rw[Int.natCast_sub (by omega),ey];push_cast;grind
  ·obtain rfl:r=0:=by omega
   simp only[hx,hyn,ZA,and_false,if_false,decide_true,decide_false,bne_iff_ne,ne_eq,Bool.true_eq_false,not_false_eq_true,if_true]
   refine key _ _ ?_ (by omega) (by omega)
   push_cast at hd'⊢;grind
 ·have ex:(x.natAbs:Int)=x:=by omega
  have ey:(y.natAbs:Int)= -y:=by omega
  rw[ex,ey]at hd'
  simp only[hx,hyn,false_and,if_false,decide_true,decide_false,bne_iff_ne,ne_eq,Zs,not_false_eq_true,if_true]
  refine key _ _ ?_ (by omega) (by omega)
  push_cast at hd'⊢;grind
 ·have ex:(x.natAbs:Int)=x:=by omega
  have ey:(y.natAbs:Int)=y:=by omega
  rw[ex,ey]at hd'
  simp only[hx,hyn,false_and,if_false,decide_false,bne_self_eq_false,Zs]
  refine key _ _ ?_ (by omega) (by omega)
  push_cast at hd'⊢;grind
theorem sum_one {B:Base}(hB:Std B){l:PL}{x:Nat}(s:IsW l x)(hx:(Xc x).length<100000000000):Ret B 184 [.one l,.one (.lst [[.int .u32 (.ofNat 1)]])] (.one (.lst (wsP (Xc (x+1))))):=by
 have h:=sum_ret hB s (lb:=.lst (wsP [1])) .lst (Xj x) (Dig.mk (by decide) Dig.nil) (by omega) (by decide)
 rw[Xg]at h
 exact h
theorem divmod_ret {B:Base}(hB:Std B){c d:List PL}{x y:Int}(hc:IsI c x)(hd:IsI d y)(hx:Sm x)(hy:Sm y)(hy0:y≠0):∃e f,Ret B 154 [.agg c,.agg d] (.tup [.agg e,.agg f,.one (.int .i64 (.ofNat 0))])/\IsI e (x / y)/\IsI f (x%y):=by
 obtain⟨m,rfl,hm⟩:=hc
 obtain⟨n,rfl,hn⟩:=hd
 unfold Sm at hx hy
 have hyp:0<y.natAbs:=by omega
 obtain⟨tr,t1,t2⟩:=trim_w hB hn (by omega)
 have hly:(Xc y.natAbs).length≠0:=by rw[Ne,Wn];omega
 obtain⟨q,r,d1,d2,d3⟩:=divide_ret hB hm hn hx hy hyp
 obtain⟨e1,e2⟩:=emod_natAbs x hy0
 have hr:=ZN x.natAbs hyp
 have lq:(Xc (x.natAbs / y.natAbs)).length<100000000000:=Z5 (Xs (Nat.div_le_self ..)) hx
 have lr:(Xc (x.natAbs%y.natAbs)).length<100000000000:=Z5 (Xs (Nat.le_of_lt hr)) hy
 by_cases hneg:x<0/\0<x.natAbs%y.natAbs
 ·have s1:=sum_one hB d2 lq
  have s2:=diff_ret hB hn d3 (Xj _) (Xj _) (Xs (Nat.le_of_lt hr)) (by omega) (by rw[Xg,Xg];omega)
  rw[Xg,Xg]at s2
  simp only[if_pos hneg]at e1 e2
  have l1:(Xc (x.natAbs / y.natAbs+1)).length<1000000000000:=by
   have:=Vu (x.natAbs / y.natAbs) 1
   rw[Tu.2 (by decide:0<1/\1<4294967296)]at this
   omega
  have l2:(Xc (y.natAbs-x.natAbs%y.natAbs)).length<1000000000000:=by
   have:=Xs (Nat.sub_le y.natAbs (x.natAbs%y.natAbs));omega
  obtain⟨e,g1,g2⟩:=Wz hB (decide (x<0)!=decide (y<0)) (l:=.lst (wsP (Xc (x.natAbs / y.natAbs+1)))) .lst (Xj _) l1
  obtain⟨f,g3,g4⟩:=Wz hB false (l:=.lst (wsP (Xc (y.natAbs-x.natAbs%y.natAbs)))) .lst (Xj _) l2
  rw[Xg]at g2 g4
  rw[<-e1]at g2
  replace g4:IsI f (x%y):=by rw[e2];simpa using g4
  have hq:((decide (x<0)==decide (y<0))!=true)=(decide (x<0)!=decide (y<0)):=by cases decide (x<0)<;>cases decide (y<0)<;>rfl
  obtain⟨z1,z2,ez⟩:=g2.len
  obtain⟨z3,z4,ez2⟩:=g4.len
  subst ez ez2
  have n1:=hneg.1
  have n2:0<(Xc (x.natAbs%y.natAbs)).length:=by
   have :(Xc (x.natAbs%y.natAbs)).length≠0:=by rw[Ne,Wn];omega
   omega
  refine⟨_,_,Ret.of (hB.tab _ _ rfl) ((t1.evt.and (d1.evt.and (s1.evt.and (s2.evt.and (g1.evt.and (g3.evt.and hB.evt)))))).mono fun E K ⟨a1,a2,a3,a4,a5,a6,hmd⟩=> ?_),g2,g4⟩
  simp only[n1,decide_true]at a5 hq
  obtain⟨cE,lK,oD,oS,oR,dS,dD,k1,k2,k3,k4,k5,k6,k7,hLo,R⟩:=EVR
  simp(decide:=true)only[EVQ,R,EVN,reduceIte,Nat.reduceAdd,x154,hmd,MDS,a1,a2,a3,a4,a5,a6,t2.len,hly,n1,n2,d3.len,hq]
 ·obtain⟨e,g1,g2⟩:=Wz hB (decide (x<0)!=decide (y<0)) d2 (Xj _) (by omega)
  obtain⟨f,g3,g4⟩:=Wz hB false d3 (Xj _) (by omega)
  simp only[if_neg hneg]at e1 e2
  rw[Xg]at g2 g4
  rw[<-e1]at g2
  replace g4:IsI f (x%y):=by rw[e2];simpa using g4
  have hq:((decide (x<0)==decide (y<0))!=true)=(decide (x<0)!=decide (y<0)):=by cases decide (x<0)<;>cases decide (y<0)<;>rfl
  obtain⟨z1,z2,ez⟩:=g2.len
  obtain⟨z3,z4,ez2⟩:=g4.len
  subst ez ez2
  refine⟨_,_,Ret.of (hB.tab _ _ rfl) ((t1.evt.and (d1.evt.and (g1.evt.and (g3.evt.and hB.evt)))).mono fun E K ⟨a1,a2,a5,a6,hmd⟩=> ?_),g2,g4⟩
  obtain⟨cE,lK,oD,oS,oR,dS,dD,k1,k2,k3,k4,k5,k6,k7,hLo,R⟩:=EVR
  by_cases n1:x<0
  ·have n2:¬0<(Xc (x.natAbs%y.natAbs)).length:=by
    have :(Xc (x.natAbs%y.natAbs)).length=0:=by rw[Wn];omega
    omega
   simp only[n1,decide_true]at a5 hq
   simp(decide:=true)only[EVQ,R,EVN,reduceIte,Nat.reduceAdd,x154,hmd,MDS,a1,a2,a5,a6,t2.len,hly,n1,n2,d3.len,hq]
  ·simp only[n1,decide_false]at a5 hq
   simp(decide:=true)only[EVQ,R,EVN,reduceIte,Nat.reduceAdd,x154,hmd,MDS,a1,a2,a5,a6,t2.len,hly,n1,hq]
end Go.Proofs.YtefpgecinlekpaaGreat
