/- The reference's integers: the digit of a quotient, guessed (written by gen_rdiv1.py). -/
import Derived.Test.YtefpgecinlekpaaGreatDivB
set_option maxHeartbeats 16000000
set_option maxRecDepth 100000
namespace Go.Proofs.YtefpgecinlekpaaGreat
open Go.Ev Go.Num
theorem mB {r:Nat}(h:r<4294967296):r*4294967296%18446744073709551616=r*4294967296:=by omega
theorem mBa {r u:Nat}(h:r<4294967296)(hu:u<4294967296):(r*4294967296+u)%18446744073709551616=r*4294967296+u:=by omega
section
variable {E:Oracle}{K:Nat}{H:List Blk}{lu lv:PL}{m k:Nat}{U V:List Nat}{v1 v2 u2 p q r:Nat}
theorem rgl_nextA (su:SlW lu U)(sv:SlW lv V)(hm:m<1000000000000)(g1:V[m+1]? =some v1)(g2:V[m]? =some v2)(g3:U[m]? =some u2)(b1:v1<4294967296)(b2:v2<4294967296)(b3:u2<4294967296)(hr:r<4294967296)(hq:p<=4294967298)(hc:4294967296<=p+1)(hb:¬4294967296<=r+v1):Xa E K 0 [0,1,5,7,8] x198_1 (k+1) ⟨[(0,.one (.p lu)),(1,.one (.p lv)),(5,.one (.p (.int .i64 (.ofNat (m+2))))),(7,.one (.p (.int .u64 (.ofNat (p+1))))),(8,.one (.p (.int .u64 (.ofNat r))))],H⟩=Xa E K 0 [0,1,5,7,8] x198_1 k ⟨[(0,.one (.p lu)),(1,.one (.p lv)),(5,.one (.p (.int .i64 (.ofNat (m+2))))),(7,.one (.p (.int .u64 (.ofNat p)))),(8,.one (.p (.int .u64 (.ofNat (r+v1)))))],H⟩:=by
 have s2:Xd .i64 (.ofNat (m+2)-.ofNat 2)=.ofNat m:=by rw[XI (by omega) (by omega)];rfl
 have s1:Xd .i64 (.ofNat (m+2)-.ofNat 1)=.ofNat (m+1):=by rw[XI (by omega) (by omega)];rfl
 have f1:v1%18446744073709551616=v1:=Zd (by omega)
 have f2:v2%18446744073709551616=v2:=Zd (by omega)
 have f3:u2%18446744073709551616=u2:=Zd (by omega)
 have f5:(r+v1)%18446744073709551616=r+v1:=Zd (by omega)
 have f7:r*4294967296%18446744073709551616=r*4294967296:=mB hr
 have f8:(r*4294967296+u2)%18446744073709551616=r*4294967296+u2:=mBa hr b3
 have f4:Xd .u64 (.ofNat (p+1)-.ofNat 1)=.ofNat p:=by rw[Um (by omega),wrap_u64,Z6,Zd (by omega)]
 obtain⟨cE,lK,oD,oS,oR,dS,dD,h1,h2,h3,h4,h5,h6,h7,hL,R⟩:=EVR
 rw[<-h2,hL]
 simp only[EVQ,R,EVN,reduceIte,Nat.reduceEqDiff,Nat.reduceAdd,x198_1,s1,sv.idx g1,f1,f4,f5,hc,hb]
theorem rgl_breakA (su:SlW lu U)(sv:SlW lv V)(hm:m<1000000000000)(g1:V[m+1]? =some v1)(g2:V[m]? =some v2)(g3:U[m]? =some u2)(b1:v1<4294967296)(b2:v2<4294967296)(b3:u2<4294967296)(hr:r<4294967296)(hq:p<=4294967298)(hc:4294967296<=p+1)(hb:4294967296<=r+v1):∃T',Xa E K 0 [0,1,5,7,8] x198_1 (k+1) ⟨[(0,.one (.p lu)),(1,.one (.p lv)),(5,.one (.p (.int .i64 (.ofNat (m+2))))),(7,.one (.p (.int .u64 (.ofNat (p+1))))),(8,.one (.p (.int .u64 (.ofNat r))))],H⟩=some (.exit 0,⟨T',H⟩)/\Xf T' 7=some (.one (.p (.int .u64 (.ofNat p)))):=by
 have s2:Xd .i64 (.ofNat (m+2)-.ofNat 2)=.ofNat m:=by rw[XI (by omega) (by omega)];rfl
 have s1:Xd .i64 (.ofNat (m+2)-.ofNat 1)=.ofNat (m+1):=by rw[XI (by omega) (by omega)];rfl
 have f1:v1%18446744073709551616=v1:=Zd (by omega)
 have f2:v2%18446744073709551616=v2:=Zd (by omega)
 have f3:u2%18446744073709551616=u2:=Zd (by omega)
 have f5:(r+v1)%18446744073709551616=r+v1:=Zd (by omega)
 have f7:r*4294967296%18446744073709551616=r*4294967296:=mB hr
 have f8:(r*4294967296+u2)%18446744073709551616=r*4294967296+u2:=mBa hr b3
 have f4:Xd .u64 (.ofNat (p+1)-.ofNat 1)=.ofNat p:=by rw[Um (by omega),wrap_u64,Z6,Zd (by omega)]
 apply ex1
 ·obtain⟨cE,lK,oD,oS,oR,dS,dD,h1,h2,h3,h4,h5,h6,h7,hL,R⟩:=EVR
  rw[<-h2,hL]
  simp only[EVQ,R,EVN,reduceIte,Nat.reduceEqDiff,Nat.reduceAdd,x198_1,s1,sv.idx g1,f1,f4,f5,hc,hb]
  rfl
 ·simp only[EVS,reduceIte,Nat.reduceEqDiff]
theorem rgl_nextB (su:SlW lu U)(sv:SlW lv V)(hm:m<1000000000000)(g1:V[m+1]? =some v1)(g2:V[m]? =some v2)(g3:U[m]? =some u2)(b1:v1<4294967296)(b2:v2<4294967296)(b3:u2<4294967296)(hr:r<4294967296)(hc:¬4294967296<=p+1)(hg:r*4294967296+u2<(p+1)*v2)(hb:¬4294967296<=r+v1):Xa E K 0 [0,1,5,7,8] x198_1 (k+1) ⟨[(0,.one (.p lu)),(1,.one (.p lv)),(5,.one (.p (.int .i64 (.ofNat (m+2))))),(7,.one (.p (.int .u64 (.ofNat (p+1))))),(8,.one (.p (.int .u64 (.ofNat r))))],H⟩=Xa E K 0 [0,1,5,7,8] x198_1 k ⟨[(0,.one (.p lu)),(1,.one (.p lv)),(5,.one (.p (.int .i64 (.ofNat (m+2))))),(7,.one (.p (.int .u64 (.ofNat p)))),(8,.one (.p (.int .u64 (.ofNat (r+v1)))))],H⟩:=by
 have s2:Xd .i64 (.ofNat (m+2)-.ofNat 2)=.ofNat m:=by rw[XI (by omega) (by omega)];rfl
 have s1:Xd .i64 (.ofNat (m+2)-.ofNat 1)=.ofNat (m+1):=by rw[XI (by omega) (by omega)];rfl
 have f1:v1%18446744073709551616=v1:=Zd (by omega)
 have f2:v2%18446744073709551616=v2:=Zd (by omega)
 have f3:u2%18446744073709551616=u2:=Zd (by omega)
 have f5:(r+v1)%18446744073709551616=r+v1:=Zd (by omega)
 have f7:r*4294967296%18446744073709551616=r*4294967296:=mB hr
 have f8:(r*4294967296+u2)%18446744073709551616=r*4294967296+u2:=mBa hr b3
 have f4:Xd .u64 (.ofNat (p+1)-.ofNat 1)=.ofNat p:=by rw[Um (by omega),wrap_u64,Z6,Zd (by omega)]
 have f6:(p+1)*v2%18446744073709551616=(p+1)*v2:=by
  have:=V1 (x:=p+1) (by omega) b2 (z:=0) (u:=0) (by omega) (by omega)
  exact Zd (by omega)
 obtain⟨cE,lK,oD,oS,oR,dS,dD,h1,h2,h3,h4,h5,h6,h7,hL,R⟩:=EVR
 rw[<-h2,hL]
 simp only[EVQ,R,EVN,reduceIte,Nat.reduceEqDiff,Nat.reduceAdd,x198_1,s1,s2,sv.idx g1,sv.idx g2,su.idx g3,f1,f2,f3,f4,f5,f6,f7,f8,hc,hg,hb]
theorem rgl_breakB (su:SlW lu U)(sv:SlW lv V)(hm:m<1000000000000)(g1:V[m+1]? =some v1)(g2:V[m]? =some v2)(g3:U[m]? =some u2)(b1:v1<4294967296)(b2:v2<4294967296)(b3:u2<4294967296)(hr:r<4294967296)(hc:¬4294967296<=p+1)(hg:r*4294967296+u2<(p+1)*v2)(hb:4294967296<=r+v1):∃T',Xa E K 0 [0,1,5,7,8] x198_1 (k+1) ⟨[(0,.one (.p lu)),(1,.one (.p lv)),(5,.one (.p (.int .i64 (.ofNat (m+2))))),(7,.one (.p (.int .u64 (.ofNat (p+1))))),(8,.one (.p (.int .u64 (.ofNat r))))],H⟩=some (.exit 0,⟨T',H⟩)/\Xf T' 7=some (.one (.p (.int .u64 (.ofNat p)))):=by
 have s2:Xd .i64 (.ofNat (m+2)-.ofNat 2)=.ofNat m:=by rw[XI (by omega) (by omega)];rfl
 have s1:Xd .i64 (.ofNat (m+2)-.ofNat 1)=.ofNat (m+1):=by rw[XI (by omega) (by omega)];rfl
 have f1:v1%18446744073709551616=v1:=Zd (by omega)
 have f2:v2%18446744073709551616=v2:=Zd (by omega)
 have f3:u2%18446744073709551616=u2:=Zd (by omega)
 have f5:(r+v1)%18446744073709551616=r+v1:=Zd (by omega)
 have f7:r*4294967296%18446744073709551616=r*4294967296:=mB hr
 have f8:(r*4294967296+u2)%18446744073709551616=r*4294967296+u2:=mBa hr b3
 have f4:Xd .u64 (.ofNat (p+1)-.ofNat 1)=.ofNat p:=by rw[Um (by omega),wrap_u64,Z6,Zd (by omega)]
 have f6:(p+1)*v2%18446744073709551616=(p+1)*v2:=by
  have:=V1 (x:=p+1) (by omega) b2 (z:=0) (u:=0) (by omega) (by omega)
  exact Zd (by omega)
 apply ex1
 ·obtain⟨cE,lK,oD,oS,oR,dS,dD,h1,h2,h3,h4,h5,h6,h7,hL,R⟩:=EVR
  rw[<-h2,hL]
  simp only[EVQ,R,EVN,reduceIte,Nat.reduceEqDiff,Nat.reduceAdd,x198_1,s1,s2,sv.idx g1,sv.idx g2,su.idx g3,f1,f2,f3,f4,f5,f6,f7,f8,hc,hg,hb]
  rfl
 ·simp only[EVS,reduceIte,Nat.reduceEqDiff]
theorem rgl_exit (su:SlW lu U)(sv:SlW lv V)(hm:m<1000000000000)(g1:V[m+1]? =some v1)(g2:V[m]? =some v2)(g3:U[m]? =some u2)(b1:v1<4294967296)(b2:v2<4294967296)(b3:u2<4294967296)(hr:r<4294967296)(hc:¬4294967296<=q)(hg:¬r*4294967296+u2<q*v2):∃T',Xa E K 0 [0,1,5,7,8] x198_1 (k+1) ⟨[(0,.one (.p lu)),(1,.one (.p lv)),(5,.one (.p (.int .i64 (.ofNat (m+2))))),(7,.one (.p (.int .u64 (.ofNat q)))),(8,.one (.p (.int .u64 (.ofNat r))))],H⟩=some (.exit 0,⟨T',H⟩)/\Xf T' 7=some (.one (.p (.int .u64 (.ofNat q)))):=by
 have s2:Xd .i64 (.ofNat (m+2)-.ofNat 2)=.ofNat m:=by rw[XI (by omega) (by omega)];rfl
 have s1:Xd .i64 (.ofNat (m+2)-.ofNat 1)=.ofNat (m+1):=by rw[XI (by omega) (by omega)];rfl
 have f1:v1%18446744073709551616=v1:=Zd (by omega)
 have f2:v2%18446744073709551616=v2:=Zd (by omega)
 have f3:u2%18446744073709551616=u2:=Zd (by omega)
 have f7:r*4294967296%18446744073709551616=r*4294967296:=mB hr
 have f8:(r*4294967296+u2)%18446744073709551616=r*4294967296+u2:=mBa hr b3
 have f6:q*v2%18446744073709551616=q*v2:=by
  have:=V1 (x:=q) (by omega) b2 (z:=0) (u:=0) (by omega) (by omega)
  exact Zd (by omega)
 apply ex1
 ·obtain⟨cE,lK,oD,oS,oR,dS,dD,h1,h2,h3,h4,h5,h6,h7,hL,R⟩:=EVR
  rw[<-h2,hL]
  simp only[EVQ,R,EVN,reduceIte,Nat.reduceEqDiff,Nat.reduceAdd,x198_1,s2,sv.idx g2,su.idx g3,f2,f3,f6,f7,f8,hc,hg]
  rfl
 ·simp only[EVS,reduceIte,Nat.reduceEqDiff]
theorem rguess_loop (su:SlW lu U)(sv:SlW lv V)(hm:m<1000000000000)(g1:V[m+1]? =some v1)(g2:V[m]? =some v2)(g3:U[m]? =some u2)(b1:v1<4294967296)(b2:v2<4294967296)(b3:u2<4294967296){top:Nat}(ht:top<v1*4294967296+4294967296):∀(d q r:Nat),q*v1+r=top->r<4294967296->q<=4294967298->4294967296<=r+d*v1->(4294967296<=q+1\/top*4294967296+u2<(q+1)*(v1*4294967296+v2))->∀k,d<k->
  ∃T' q',Xa E K 0 [0,1,5,7,8] x198_1 k ⟨[(0,.one (.p lu)),(1,.one (.p lv)),(5,.one (.p (.int .i64 (.ofNat (m+2))))),(7,.one (.p (.int .u64 (.ofNat q)))),(8,.one (.p (.int .u64 (.ofNat r))))],H⟩=some (.exit 0,⟨T',H⟩)/\Xf T' 7=some (.one (.p (.int .u64 (.ofNat q'))))/\Guess v1 v2 top u2 q':=by
 intro d
 induction d with
 |zero=>intro q r _ hr _ hd;omega
 |succ d ih=>
  intro q r e hr hq hd hn k hk
  obtain⟨k,rfl⟩:∃k',k=k'+1:=⟨k-1,by omega⟩
  by_cases hc:4294967296<=q
  ·obtain⟨p,rfl⟩:∃p,q=p+1:=⟨q-1,by omega⟩
   have e':p*v1+(r+v1)=top:=by rw[Nat.succ_mul]at e;omega
   by_cases hb:4294967296<=r+v1
   ·obtain⟨k1,k2⟩:=TX (u2:=u2) e' hb b2 ht
    obtain⟨T',h1,h2⟩:=rgl_breakA (E:=E) (K:=K) (k:=k) (H:=H) su sv hm g1 g2 g3 b1 b2 b3 hr (by omega) hc hb
    exact⟨T',p,h1,h2,k1,k2,.inl (by omega)⟩
   ·obtain⟨T',q',h1,h2⟩:=ih p (r+v1) e' (by omega) (by omega) (by rw[Nat.succ_mul]at hd;omega) (.inl hc) k (by omega)
    exact⟨T',q',by rw[rgl_nextA su sv hm g1 g2 g3 b1 b2 b3 hr (by omega) hc hb];exact h1,h2⟩
  ·by_cases hg:r*4294967296+u2<q*v2
   ·obtain⟨p,rfl⟩:∃p,q=p+1:=by
     rcases Z0 q with h|h
     ·subst h;omega
     ·exact⟨q-1,by omega⟩
    have e':p*v1+(r+v1)=top:=by rw[Nat.succ_mul]at e;omega
    have hnx:=guess_next e hg
    by_cases hb:4294967296<=r+v1
    ·obtain⟨k1,k2⟩:=TX (u2:=u2) e' hb b2 ht
     obtain⟨T',h1,h2⟩:=rgl_breakB (E:=E) (K:=K) (k:=k) (H:=H) su sv hm g1 g2 g3 b1 b2 b3 hr hc hg hb
     exact⟨T',p,h1,h2,k1,k2,.inr hnx⟩
    ·obtain⟨T',q',h1,h2⟩:=ih p (r+v1) e' (by omega) (by omega) (by rw[Nat.succ_mul]at hd;omega) (.inr hnx) k (by omega)
     exact⟨T',q',by rw[rgl_nextB su sv hm g1 g2 g3 b1 b2 b3 hr hc hg hb];exact h1,h2⟩
   ·obtain⟨T',h1,h2⟩:=rgl_exit (E:=E) (K:=K) (k:=k) (H:=H) su sv hm g1 g2 g3 b1 b2 b3 hr hc hg
    refine⟨T',q,h1,h2,by omega,guess_exit e (by omega),?_⟩
    rcases hn with hn|hn
    ·exact .inl (by omega)
    ·exact .inr hn
end
theorem guess_ret {B:Base}(hB:Std B){lu lv:PL}{Uw Vw:List Nat}{m U V:Nat}(su:SlW lu Uw)(sv:SlW lv Vw)(hvl:Vw.length=m+2)(hm:m<100000000000)(hN:Norm V (m+2))(hU:U<V*4294967296)
  (hV:∀i,i<m+2->Vw[i]? =some (V / 4294967296^i%4294967296)) (hu:∀i,i<m+3->Uw[i]? =some (U / 4294967296^i%4294967296)):
  ∃q,Ret B 198 [.one lu,.one lv] (.one (.int .u64 (.ofNat q)))/\q<4294967296/\U / V<=q/\q<=U / V+1:=by
 have hVn:=hN.2
 have hUn:U<4294967296^(m+3):=by
  have:=Ye hVn (show 0<4294967296 by decide)
  rw[<-ZD]at this
  exact Yt hU this
 obtain⟨v1,ev1⟩:∃v1,v1=V / 4294967296^(m+1):=⟨_,rfl⟩
 have bv1:v1<4294967296:=by rw[ev1];exact Vx hVn
 obtain⟨v2,ev2⟩:∃v2,v2=V / 4294967296^m%4294967296:=⟨_,rfl⟩
 have bv2:v2<4294967296:=by rw[ev2];exact ZN _ (by decide)
 obtain⟨un,eun⟩:∃un,un=U / 4294967296^(m+2):=⟨_,rfl⟩
 have bun:un<4294967296:=by rw[eun];exact Vx hUn
 obtain⟨u1,eu1⟩:∃u1,u1=U / 4294967296^(m+1)%4294967296:=⟨_,rfl⟩
 have bu1:u1<4294967296:=by rw[eu1];exact ZN _ (by decide)
 obtain⟨u2,eu2⟩:∃u2,u2=U / 4294967296^m%4294967296:=⟨_,rfl⟩
 have bu2:u2<4294967296:=by rw[eu2];exact ZN _ (by decide)
 obtain⟨top,etop⟩:∃top,top=un*4294967296+u1:=⟨_,rfl⟩
 have etop2:top=U / 4294967296^(m+1):=by rw[etop,eun,eu1];exact(two_words U (m+1)).symm
 have hhalf:=lead_half hN
 have htop:=top_lt (m:=m) hU
 rw[<-ev1]at hhalf htop
 rw[<-etop2]at htop
 have hgv1:Vw[m+1]? =some v1:=by rw[hV (m+1) (by omega),ev1,Zd (Vx hVn)]
 have hgv2:Vw[m]? =some v2:=by rw[hV m (by omega),ev2]
 have hgun:Uw[m+2]? =some un:=by rw[hu (m+2) (by omega),eun,Zd (Vx hUn)]
 have hgu1:Uw[m+1]? =some u1:=by rw[hu (m+1) (by omega),eu1]
 have hgu2:Uw[m]? =some u2:=by rw[hu m (by omega),eu2]
 obtain⟨w,rfl⟩:∃w,v1=w+1:=⟨v1-1,by omega⟩
 have hdm:=Ym top (w+1)
 have hmlt:=ZN top (show 0<w+1 by omega)
 obtain⟨q0,eq0⟩:∃q0,q0=top / (w+1):=⟨_,rfl⟩
 obtain⟨r0,er0⟩:∃r0,r0=top%(w+1):=⟨_,rfl⟩
 rw[<-eq0,<-er0]at hdm
 rw[<-er0]at hmlt
 have hq0:q0<=4294967298:=by
  rcases Yn 4294967298 q0 with h|h
  ·exfalso
   have:=Yq (w+1) (show 4294967299<=q0 from h)
   omega
  ·exact h
 have hnext:top*4294967296+u2<(q0+1)*((w+1)*4294967296+v2):=by
  rw[Nat.mul_add,<-Yj]
  have h1:top+1<=(q0+1)*(w+1):=by rw[ZJ,Z9,ZE q0];omega
  have h2:=Zn 4294967296 h1
  have h3:=Zr ((q0+1)*v2)
  omega
 have main:∃q,q<4294967296/\U / V<=q/\q<=U / V+1/\∀(E:Oracle) (K:Nat),3<=K->∃T',Xa E K 0 [0,1,5,7,8] x198_1 K ⟨[(0,.one (.p lu)),(1,.one (.p lv)),(5,.one (.p (.int .i64 (.ofNat (m+2))))),(7,.one (.p (.int .u64 (.ofNat q0)))),(8,.one (.p (.int .u64 (.ofNat r0))))],[]⟩=some (.exit 0,⟨T',[]⟩)/\Xf T' 7=some (.one (.p (.int .u64 (.ofNat q)))):=by
  have hloop:=fun(E:Oracle) (K:Nat) (hK:3<=K)=>rguess_loop (E:=E) (K:=K) (H:=[]) su sv (by omega) hgv1 hgv2 hgu2 bv1 bv2 bu2 htop 2 q0 r0 (by rw[ZE];exact hdm) (by omega) hq0 (by omega) (.inr hnext) K (by omega)
  have uniq:∀q q',Guess (w+1) v2 top u2 q->Guess (w+1) v2 top u2 q'->q=q':=by
   intro q q' ⟨a1,a2,a3⟩ ⟨b1,b2,b3⟩
   rcases Nat.lt_trichotomy q q' with h|h|h
   ·exfalso
    rcases a3 with a3|a3
    ·omega
    ·have:=Zn ((w+1)*4294967296+v2) (show q+1<=q' from h)
     omega
   ·exact h
   ·exfalso
    rcases b3 with b3|b3
    ·omega
    ·have:=Zn ((w+1)*4294967296+v2) (show q'+1<=q from h)
     omega
  obtain⟨T0,q,-,-,a6⟩:=hloop (B.E 3 3) 3 (Zg _)
  have a7:=a6
  rw[ev1,ev2,etop2,eu2]at a6
  obtain⟨hq1,hq2⟩:=guess_right hN hU a6
  refine⟨q,a7.1,hq1,hq2,fun E K hK=> ?_⟩
  obtain⟨T',q',b1,b2,b3⟩:=hloop E K hK
  rw[uniq q q' a7 b3]
  exact⟨T',b1,b2⟩
 obtain⟨q,hq,hq1,hq2,hl⟩:=main
 refine⟨q,Ret.of (hB.tab _ _ rfl) (((Evt.ge 3).and hB.evt).mono fun E K ⟨hK,hmd⟩=> ?_),hq,hq1,hq2⟩
 obtain⟨T',a1,a2⟩:=hl E K hK
 have s1:Xd .i64 (.ofNat (m+2)-.ofNat 1)=.ofNat (m+1):=by rw[XI (by omega) (by omega)];rfl
 have f1:un%18446744073709551616=un:=Zd (by omega)
 have f2:u1%18446744073709551616=u1:=Zd (by omega)
 have f3:(w+1)%18446744073709551616=w+1:=Zd (by omega)
 have f4:un*4294967296%18446744073709551616=un*4294967296:=mB bun
 have f5:(un*4294967296+u1)%18446744073709551616=top:=by rw[etop];exact mBa bun bu1
 have o3:Ua .u64 (.ofNat top) (.ofNat (w+1))=some (.p (.int .u64 (.ofNat q0))):=by
  show some (DL.p (.int .u64 (Xd .u64 (.ofNat (top / (w+1))))))=_
  rw[<-eq0,wrap_u64,Zd (by omega)]
 have o4:V0 .u64 (.ofNat top) (.ofNat (w+1))=some (.p (.int .u64 (.ofNat r0))):=by rw[er0];rfl
 have hlen:=sv.len
 rw[hvl]at hlen
 clear hnext hdm htop hhalf etop etop2 ev1 ev2 eun eu1 eu2 eq0 er0 hq0 hl
 obtain⟨cE,lK,oD,oS,oR,dS,dD,h1,h2,h3,h4,h5,h6,h7,hL,R⟩:=EVR
 rw[<-h2]at a1
 simp only[EVQ,R,EVN,reduceIte,Nat.reduceEqDiff,Nat.reduceLeDiff,Nat.reduceAdd,x198,hlen,s1,su.idx hgun,su.idx hgu1,sv.idx hgv1,f1,f2,f3,f4,f5,o3,o4,a1,a2]
end Go.Proofs.YtefpgecinlekpaaGreat
namespace Go.Num
theorem carry_step {q V c i vi:Nat}(hc:c=q*(V%4294967296^i) / 4294967296^i)(hv:vi=V / 4294967296^i%4294967296):(q*vi+c) / 4294967296=q*(V%4294967296^(i+1)) / 4294967296^(i+1):=by
 rw[U8,<-hv,Nat.mul_add,ZD,<-YO,Nat.mul_left_comm,Nat.add_mul_div_left _ _ (UG i),<-hc,YI]
theorem getD_wordsOf (V i:Nat):(Xc V)[i]?.getD 0=V / 4294967296^i%4294967296:=by
 by_cases h:i<(Xc V).length
 ·have e:Xc V=dg (Xc V).length V:=V8 (Xj V) rfl (Xg V)
  rw[e,get_dg h];rfl
 ·have h1:=V2 V
  have h2:=WA (show(Xc V).length<=i by omega)
  rw[Ys (by omega),YD (ZQ h1 h2)];rfl
theorem less_end {U V Y q c b n:Nat}(hV0:0<V)(hV:V<4294967296^n)(hq:q<4294967296)(hU:U<4294967296^(n+1))(hY:Y<4294967296^(n+1))(hc:c=q*(V%4294967296^(n+1)) / 4294967296^(n+1))(h:Y+q*(V%4294967296^(n+1))=U%4294967296^(n+1)+(c+b)*4294967296^(n+1))(hb:b<=1):
  (q=U / V->b=0/\Y=U%V)/\(q=U / V+1->b=1/\Y+V=U%V+4294967296^(n+1)):=by
 have hVn:V<4294967296^(n+1):=Yt hV (Nat.pow_lt_pow_right (by decide) (Nat.lt_succ_self n))
 rw[Zd hVn]at hc h
 rw[Zd hU]at h
 have hqV:q*V<4294967296^(n+1):=by rw[ZD,ZE];exact Nat.mul_lt_mul'' hV hq
 have hc0:c=0:=by rw[hc];exact YD hqV
 rw[hc0,ZY]at h
 have h1:=Ym U V
 have h2:=ZN U hV0
 rw[ZE]at h1
 constructor
 ·intro e
  rw[<-e]at h1
  have hb0:b=0:=by
   rcases Yn b 1 with hb1|hb1
   ·omega
   ·have :b=1:=by omega
    rw[this,Z9]at h
    exfalso
    generalize q*V=w at *
    generalize U%V=z at *
    generalize 4294967296^(n+1)=p at *
    omega
  rw[hb0,YK]at h
  exact⟨hb0,by omega⟩
 ·intro e
  rw[e,ZJ,Z9]at h
  have hb0:b=1:=by
   rcases Yn b 1 with hb1|hb1
   ·have :b=0:=by omega
    rw[this,YK]at h
    exfalso
    generalize U / V*V=w at *
    generalize U%V=z at *
    omega
   ·omega
  rw[hb0,Z9]at h
  exact⟨hb0,by omega⟩
end Go.Num
namespace Go.Proofs.YtefpgecinlekpaaGreat
open Go.Ev Go.Num
section
variable {E:Oracle}{K:Nat}{iu j n tu:Nat}{lv:PL}{low hi:List Nat}{U V q:Nat}
theorem less_loop (hmd:E.mode=md)(hlow:low.length=j)(hn:n<1000000000000)(hq:q<4294967296)(hw:∀i,i<n->E.pure 174 [.one lv,.one (.int .i64 (.ofNat i))]=some (.one (.int .u64 (.ofNat (V / 4294967296^i%4294967296))))):∀(d i k:Nat) (H:List Blk) (yl:List Nat) (c b:Nat),i+d=n->d<k->
  H[iu]? =some ⟨false,0,1,wsD (low++yl++(dg d (U / 4294967296^i)++hi)),false,tu⟩->yl.length=i->Dig yl->c<4294967296->b<=1->c=q*(V%4294967296^i) / 4294967296^i->val yl+q*(V%4294967296^i)=U%4294967296^i+(c+b)*4294967296^i->
  ∃T' yl' c' b',Xa E K 0 [0,1,2,7,8,9] x199_1 k ⟨[(0,.one (.own iu 0 j n)),(1,.one (.p lv)),(2,.one (.p (.int .u64 (.ofNat q)))),(7,.one (.p (.int .u64 (.ofNat c)))),(8,.one (.p (.int .u64 (.ofNat b)))),(9,.one (.p (.int .i64 (.ofNat i))))],H⟩=
   some (.exit 0,⟨T',H.set iu ⟨false,0,1,wsD (low++yl'++hi),false,tu⟩⟩)/\Xf T' 8=some (.one (.p (.int .u64 (.ofNat b'))))/\
   yl'.length=n/\Dig yl'/\b'<=1/\c'=q*(V%4294967296^n) / 4294967296^n/\val yl'+q*(V%4294967296^n)=U%4294967296^n+(c'+b')*4294967296^n
 |_,_,0,_,_,_,_,_,h,_,_,_,_,_,_,_=>by omega
 |0,i,k+1,H,yl,c,b,hi',_,hu,h1,h2,h3,h4,h4',h5=>by
  obtain rfl:i=n:=by omega
  rw[show dg 0 (U / 4294967296^i)=[]from rfl,ZL]at hu
  have :∃T',Xa E K 0 [0,1,2,7,8,9] x199_1 (k+1) ⟨[(0,.one (.own iu 0 j i)),(1,.one (.p lv)),(2,.one (.p (.int .u64 (.ofNat q)))),(7,.one (.p (.int .u64 (.ofNat c)))),(8,.one (.p (.int .u64 (.ofNat b)))),(9,.one (.p (.int .i64 (.ofNat i))))],H⟩=some (.exit 0,⟨T',H⟩)/\Xf T' 8=some (.one (.p (.int .u64 (.ofNat b)))):=by
   apply ex1
   ·obtain⟨cE,lK,oD,oS,oR,dS,dD,e1,e2,e3,e4,e5,e6,e7,hL,R⟩:=EVR
    rw[<-e2,hL]
    simp only[EVQ,R,EVN,reduceIte,Nat.reduceEqDiff,x199_1,ZA]
    rfl
   ·simp only[EVS,reduceIte,Nat.reduceEqDiff]
  obtain⟨T',g1,g2⟩:=this
  exact⟨T',yl,c,b,by rw[TA hu];exact g1,g2,h1,h2,h4,h4',h5⟩
 |d+1,i,k+1,H,yl,c,b,hi',hk,hu,h1,h2,h3,h4,h4',h5=>by
  have hin:i<n:=by omega
  have hwi:=hw i hin
  obtain⟨vi,evi⟩:∃vi,vi=V / 4294967296^i%4294967296:=⟨_,rfl⟩
  obtain⟨ui,eui⟩:∃ui,ui=U / 4294967296^i%4294967296:=⟨_,rfl⟩
  have hvi:vi<4294967296:=by omega
  have hui:ui<4294967296:=by omega
  rw[dg_cons,ZR,<-eui]at hu
  rw[<-evi]at hwi
  have hpl:(low++yl).length=j+i:=by rw[Zm,hlow,h1]
  have ht:=V1 hq hvi (z:=0) (u:=c) (by omega) h3
  obtain⟨t,et⟩:∃t,t=q*vi+c:=⟨_,rfl⟩
  have f2:ui%18446744073709551616=ui:=Zd (by omega)
  have f3:q*vi%18446744073709551616=q*vi:=Zd (by omega)
  have f4:t%18446744073709551616=t:=Zd (by omega)
  have f6:Xd .i64 (.ofNat (i+1))=.ofNat (i+1):=wrap_i64 (by omega)
  have f7:(4294967296+ui)%18446744073709551616=4294967296+ui:=Zd (by omega)
  have k1:Xd .u64 (.ofNat (4294967296+ui)-.ofNat (t%4294967296))=.ofNat (4294967296+ui-t%4294967296):=Si (by omega) (by omega)
  have k2:Xd .u64 (.ofNat (4294967296+ui-t%4294967296)-.ofNat b)=.ofNat (4294967296+ui-t%4294967296-b):=Si (by omega) (by omega)
  obtain⟨s,es⟩:∃s,s=4294967296+ui-t%4294967296-b:=⟨_,rfl⟩
  have k3:Xd .u64 (.ofNat 1-.ofNat (s / 4294967296))=.ofNat (1-s / 4294967296):=Si (by omega) (by decide)
  have f8:s / 4294967296%18446744073709551616=s / 4294967296:=Zd (by omega)
  have f9:t / 4294967296%18446744073709551616=t / 4294967296:=Zd (by omega)
  have f10:s%4294967296%4294967296=s%4294967296:=Nat.mod_mod ..
  have rel:s%4294967296+t%4294967296+b=ui+4294967296*(1-s / 4294967296):=by omega
  have hc':t / 4294967296<4294967296:=by omega
  have hnew:=sub_rel h5 et rfl rel
  have hcs:=carry_step h4' evi
  rw[<-et]at hcs
  obtain⟨T',yl',c',b',g1,g2,g3,g4,g5,g6,g7⟩:=less_loop hmd hlow hn hq hw d (i+1) k (H.set iu ⟨false,0,1,wsD (low++(yl++[s%4294967296])++(dg d (U / 4294967296^(i+1))++hi)),false,tu⟩) (yl++[s%4294967296]) (t / 4294967296) (1-s / 4294967296) (by omega) (by omega)
   (SX hu) (by simp[h1]) (h2.snoc (by omega)) hc' (by omega) hcs (by rw[val_snoc _ _ h1,U8,U8,<-evi,<-eui,ZD];exact hnew)
  rw[List.set_set]at g1
  refine⟨T',yl',c',b',?_,g2,g3,g4,g5,g6,g7⟩
  rw[<-Zq low yl [s%4294967296],<-mid_set (low++yl) _ ui (s%4294967296) hpl]at g1
  have a2:=XB (mid_get (low++yl) (dg d (U / 4294967296^(i+1))++hi) ui hpl)
  have q1:Ua .u64 (.ofNat t) (.ofNat 4294967296)=some (.p (.int .u64 (.ofNat (t / 4294967296)))):=by
   show some (DL.p (.int .u64 (Xd .u64 (.ofNat (t / 4294967296)))))=_
   rw[wrap_u64,f9]
  have q2:Ua .u64 (.ofNat s) (.ofNat 4294967296)=some (.p (.int .u64 (.ofNat (s / 4294967296)))):=by
   show some (DL.p (.int .u64 (Xd .u64 (.ofNat (s / 4294967296)))))=_
   rw[wrap_u64,f8]
  have q3:V0 .u64 (.ofNat t) (.ofNat 4294967296)=some (.p (.int .u64 (.ofNat (t%4294967296)))):=rfl
  have q4:V0 .u64 (.ofNat s) (.ofNat 4294967296)=some (.p (.int .u64 (.ofNat (s%4294967296)))):=rfl
  rw[<-es]at k2
  have f11:(q*vi+c)%18446744073709551616=t:=by rw[<-et];exact f4
  clear hnew rel hcs es ht f4 et
  obtain⟨cE,lK,oD,oS,oR,dS,dD,e1,e2,e3,e4,e5,e6,e7,hL,R⟩:=EVR
  rw[<-e2]at g1⊢
  rw[hL]
  simp only[EVQ,R,EVN,reduceIte,Nat.reduceEqDiff,Nat.reduceLeDiff,Zr,x199_1,hmd,MDS,hwi,hu,a2,hin,f2,f3,f6,f7,f10,f11,k1,k2,k3,q1,q2,q3,q4,X5]
  exact g1
end
end Go.Proofs.YtefpgecinlekpaaGreat
namespace Go.Proofs.YtefpgecinlekpaaGreat
open Go.Ev Go.Num
theorem words_evt {B:Base}(hB:Std B){lv:PL}{V:Nat}(sv:IsW lv V)(n:Nat):Evt B fun E _=>∀i,i<n->E.pure 174 [.one lv,.one (.int .i64 (.ofNat i))]=some (.one (.int .u64 (.ofNat (V / 4294967296^i%4294967296)))):=
 Evt.all n fun i _=>by
  have:=Tw hB sv (Xj V) i
  rw[getD_wordsOf]at this
  exact this.evt
theorem lessen_ret {B:Base}(hB:Std B){H:List Blk}{iu j n tu:Nat}{lv:PL}{low hi:List Nat}{U V q:Nat}(hlow:low.length=j)(hn:n<100000000000)(hV0:0<V)(hV:V<4294967296^n)(sv:IsW lv V)(hU:U<4294967296^(n+1))(hq:q<4294967296)
  (hu:H[iu]? =some ⟨false,0,1,wsD (low++(dg (n+1) U++hi)),false,tu⟩):
  ∃Y b,Va B 199 [.one (.own iu 0 j (n+1)),.one (.p lv),.one (.p (.int .u64 (.ofNat q)))] H (.one (.p (.bool (decide (b=1))))) (H.set iu ⟨false,0,1,wsD (low++(dg (n+1) Y++hi)),false,tu⟩)/\Y<4294967296^(n+1)/\
   (q=U / V->b=0/\Y=U%V)/\(q=U / V+1->b=1/\Y+V=U%V+4294967296^(n+1)):=by
 have key:∀(E:Oracle) (K:Nat),n+2<=K->E.mode=md->(∀i,i<n+1->E.pure 174 [.one lv,.one (.int .i64 (.ofNat i))]=some (.one (.int .u64 (.ofNat (V / 4294967296^i%4294967296)))))->
   ∃T' yl b c,Xa E K 0 [0,1,2,7,8,9] x199_1 K ⟨[(0,.one (.own iu 0 j (n+1))),(1,.one (.p lv)),(2,.one (.p (.int .u64 (.ofNat q)))),(7,.one (.p (.int .u64 (.ofNat 0)))),(8,.one (.p (.int .u64 (.ofNat 0)))),(9,.one (.p (.int .i64 (.ofNat 0))))],H⟩=
    some (.exit 0,⟨T',H.set iu ⟨false,0,1,wsD (low++yl++hi),false,tu⟩⟩)/\Xf T' 8=some (.one (.p (.int .u64 (.ofNat b))))/\yl.length=n+1/\Dig yl/\b<=1/\c=q*(V%4294967296^(n+1)) / 4294967296^(n+1)/\val yl+q*(V%4294967296^(n+1))=U%4294967296^(n+1)+(c+b)*4294967296^(n+1):=by
  intro E K hK hmd hw
  obtain⟨T',yl,c,b,g1,g2,g3,g4,g5,g6,g7⟩:=less_loop (E:=E) (K:=K) (iu:=iu) (tu:=tu) (low:=low) (hi:=hi) (U:=U) (q:=q) hmd hlow (show n+1<1000000000000 by omega) hq hw (n+1) 0 K H [] 0 0 (by omega) (by omega)
   (by rw[ZO,Nat.pow_zero,Nat.div_one];exact hu) rfl Dig.nil (by decide) (by decide) (by simp[Nat.mod_one]) (by simp[val,Nat.mod_one])
  exact⟨T',yl,b,c,g1,g2,g3,g4,g5,g6,g7⟩
 have hqc:q*(V%4294967296^(n+1)) / 4294967296^(n+1)=0:=by
  rw[Zd (Yt hV (Nat.pow_lt_pow_right (by decide) (Nat.lt_succ_self n)))]
  exact YD (by rw[ZD,ZE];exact Nat.mul_lt_mul'' hV hq)
 have det:∀Y b,Y<4294967296^(n+1)->b<=1->Y+q*(V%4294967296^(n+1))=U%4294967296^(n+1)+(0+b)*4294967296^(n+1)->∀Y' b',Y'<4294967296^(n+1)->b'<=1->Y'+q*(V%4294967296^(n+1))=U%4294967296^(n+1)+(0+b')*4294967296^(n+1)->Y=Y'/\b=b':=by
  intro Y b h1 h2 h3 Y' b' h4 h5 h6
  generalize q*(V%4294967296^(n+1))=w at *
  generalize U%4294967296^(n+1)=u at *
  generalize 4294967296^(n+1)=p at *
  have :b=0\/b=1:=by omega
  have :b'=0\/b'=1:=by omega
  rcases ‹b=0\/b=1› with rfl|rfl<;>rcases ‹b'=0\/b'=1› with rfl|rfl<;>simp only[ZY,YK,Z9]at h3 h6<;>first |exact⟨by omega,rfl⟩|(exfalso;omega)
 obtain⟨N,hN⟩:=(words_evt hB sv (n+1)).and (hB.evt.and (Evt.ge (B:=B) (n+2)))
 obtain⟨h1,h2,h3⟩:=hN N N (Zg _) (Zg _)
 obtain⟨T0,yl0,b0,c0,-,-,g3,g4,g5,g6,g7⟩:=key _ N h3 h2 h1
 rw[g6,hqc]at g7
 have hY:val yl0<4294967296^(n+1):=by have:=Wf g4;rwa[g3]at this
 have hend:=less_end hV0 hV hq hU hY hqc.symm g7 g5
 refine⟨val yl0,b0,Va.of (hB.tab _ _ rfl) ((((words_evt hB sv (n+1)).and (hB.evt.and (Evt.ge (n+2))))).mono fun E K ⟨a1,hmd,hK⟩=> ?_),hY,hend⟩
 obtain⟨T',yl,b,c,k1,k2,k3,k4,k5,k6,k7⟩:=key E K hK hmd a1
 rw[k6,hqc]at k7
 have hY2:val yl<4294967296^(n+1):=by have:=Wf k4;rwa[k3]at this
 obtain⟨d1,d2⟩:=det _ _ hY g5 g7 _ _ hY2 k5 k7
 rw[d1,d2,<-V8 k4 k3 rfl,<-Zq]
 obtain⟨cE,lK,oD,oS,oR,dS,dD,e1,e2,e3,e4,e5,e6,e7,hL,R⟩:=EVR
 rw[<-e2]at k1
 simp only[EVQ,R,EVH,EVN,reduceIte,Nat.reduceEqDiff,Nat.reduceLeDiff,x199,k1,k2]
section
variable {E:Oracle}{K:Nat}{iu j n tu:Nat}{lv:PL}{low hi:List Nat}{U V:Nat}
theorem back_loop (hmd:E.mode=md)(hlow:low.length=j)(hn:n<1000000000000)(hw:∀i,i<n->E.pure 174 [.one lv,.one (.int .i64 (.ofNat i))]=some (.one (.int .u64 (.ofNat (V / 4294967296^i%4294967296))))):∀(d i k:Nat) (H:List Blk) (zl:List Nat) (c:Nat),i+d=n->d<k->
  H[iu]? =some ⟨false,0,1,wsD (low++zl++(dg d (U / 4294967296^i)++hi)),false,tu⟩->zl.length=i->Dig zl->c<=1->val zl+c*4294967296^i=U%4294967296^i+V%4294967296^i->
  ∃T' zl' c',Xa E K 0 [0,1,4,5] x200_1 k ⟨[(0,.one (.own iu 0 j n)),(1,.one (.p lv)),(4,.one (.p (.int .u64 (.ofNat c)))),(5,.one (.p (.int .i64 (.ofNat i))))],H⟩=
   some (.exit 0,⟨T',H.set iu ⟨false,0,1,wsD (low++zl'++hi),false,tu⟩⟩)/\zl'.length=n/\Dig zl'/\c'<=1/\val zl'+c'*4294967296^n=U%4294967296^n+V%4294967296^n
 |_,_,0,_,_,_,_,h,_,_,_,_,_=>by omega
 |0,i,k+1,H,zl,c,hi',_,hu,h1,h2,h3,h4=>by
  obtain rfl:i=n:=by omega
  rw[show dg 0 (U / 4294967296^i)=[]from rfl,ZL]at hu
  have :∃T',Xa E K 0 [0,1,4,5] x200_1 (k+1) ⟨[(0,.one (.own iu 0 j i)),(1,.one (.p lv)),(4,.one (.p (.int .u64 (.ofNat c)))),(5,.one (.p (.int .i64 (.ofNat i))))],H⟩=some (.exit 0,⟨T',H⟩)/\True:=by
   apply ex1
   ·obtain⟨cE,lK,oD,oS,oR,dS,dD,e1,e2,e3,e4,e5,e6,e7,hL,R⟩:=EVR
    rw[<-e2,hL]
    simp only[EVQ,R,EVN,reduceIte,Nat.reduceEqDiff,x200_1,ZA]
    rfl
   ·trivial
  obtain⟨T',g1,-⟩:=this
  exact⟨T',zl,c,by rw[TA hu];exact g1,h1,h2,h3,h4⟩
 |d+1,i,k+1,H,zl,c,hi',hk,hu,h1,h2,h3,h4=>by
  have hin:i<n:=by omega
  have hwi:=hw i hin
  obtain⟨vi,evi⟩:∃vi,vi=V / 4294967296^i%4294967296:=⟨_,rfl⟩
  obtain⟨ui,eui⟩:∃ui,ui=U / 4294967296^i%4294967296:=⟨_,rfl⟩
  have hvi:vi<4294967296:=by omega
  have hui:ui<4294967296:=by omega
  rw[dg_cons,ZR,<-eui]at hu
  rw[<-evi]at hwi
  have hpl:(low++zl).length=j+i:=by rw[Zm,hlow,h1]
  obtain⟨t,et⟩:∃t,t=ui+vi+c:=⟨_,rfl⟩
  have f2:ui%18446744073709551616=ui:=Zd (by omega)
  have f3:(ui+vi)%18446744073709551616=ui+vi:=Zd (by omega)
  have f4:(ui+vi+c)%18446744073709551616=t:=by rw[<-et];exact Zd (by omega)
  have f6:Xd .i64 (.ofNat (i+1))=.ofNat (i+1):=wrap_i64 (by omega)
  have f8:t / 4294967296%18446744073709551616=t / 4294967296:=Zd (by omega)
  have f10:t%4294967296%4294967296=t%4294967296:=Nat.mod_mod ..
  have rel:t%4294967296+4294967296*(t / 4294967296)=ui+vi+c:=by omega
  have hnew:=add_rel h4 rel
  obtain⟨T',zl',c',g1,g3,g4,g5,g6⟩:=back_loop hmd hlow hn hw d (i+1) k (H.set iu ⟨false,0,1,wsD (low++(zl++[t%4294967296])++(dg d (U / 4294967296^(i+1))++hi)),false,tu⟩) (zl++[t%4294967296]) (t / 4294967296) (by omega) (by omega)
   (SX hu) (by simp[h1]) (h2.snoc (by omega)) (by omega) (by rw[val_snoc _ _ h1,U8,U8,<-evi,<-eui,ZD,ZE _ ui];exact hnew)
  rw[List.set_set]at g1
  refine⟨T',zl',c',?_,g3,g4,g5,g6⟩
  rw[<-Zq low zl [t%4294967296],<-mid_set (low++zl) _ ui (t%4294967296) hpl]at g1
  have a2:=XB (mid_get (low++zl) (dg d (U / 4294967296^(i+1))++hi) ui hpl)
  have q2:Ua .u64 (.ofNat t) (.ofNat 4294967296)=some (.p (.int .u64 (.ofNat (t / 4294967296)))):=by
   show some (DL.p (.int .u64 (Xd .u64 (.ofNat (t / 4294967296)))))=_
   rw[wrap_u64,f8]
  have q4:V0 .u64 (.ofNat t) (.ofNat 4294967296)=some (.p (.int .u64 (.ofNat (t%4294967296)))):=rfl
  clear hnew rel et
  obtain⟨cE,lK,oD,oS,oR,dS,dD,e1,e2,e3,e4,e5,e6,e7,hL,R⟩:=EVR
  rw[<-e2]at g1⊢
  rw[hL]
  simp only[EVQ,R,EVN,reduceIte,Nat.reduceEqDiff,Nat.reduceLeDiff,Zr,x200_1,hmd,MDS,hwi,hu,a2,hin,f2,f3,f4,f6,f10,q2,q4,X5]
  exact g1
end
theorem restore_ret {B:Base}(hB:Std B){H:List Blk}{iu j n tu:Nat}{lv:PL}{low hi:List Nat}{Y V Z:Nat}(hlow:low.length=j)(hn:n<100000000000)(hV:V<4294967296^n)(sv:IsW lv V)(hY:Y<4294967296^n)(hZ:Z<4294967296^n)(h:Y+V=Z+4294967296^n)
  (hu:H[iu]? =some ⟨false,0,1,wsD (low++(dg n Y++hi)),false,tu⟩):
  Va B 200 [.one (.own iu 0 j n),.one (.p lv)] H (.tup []) (H.set iu ⟨false,0,1,wsD (low++(dg n Z++hi)),false,tu⟩):=by
 refine Va.of (hB.tab _ _ rfl) ((((words_evt hB sv n).and (hB.evt.and (Evt.ge (n+1))))).mono fun E K ⟨a1,hmd,hK⟩=> ?_)
 obtain⟨T',zl,c,g1,g2,g3,g4,g5⟩:=back_loop (E:=E) (K:=K) (iu:=iu) (tu:=tu) (low:=low) (hi:=hi) (U:=Y) hmd hlow (show n<1000000000000 by omega) a1 n 0 K H [] 0 (by omega) (by omega)
   (by rw[ZO,Nat.pow_zero,Nat.div_one];exact hu) rfl Dig.nil (by decide) (by simp[val,Nat.mod_one])
 rw[Zd hY,Zd hV,h]at g5
 have hz:val zl<4294967296^n:=by have:=Wf g3;rwa[g2]at this
 have hzl:val zl=Z:=by
  generalize 4294967296^n=p at *
  have :c=0\/c=1:=by omega
  rcases this with rfl|rfl
  ·rw[YK]at g5;omega
  ·rw[Z9]at g5;omega
 rw[<-hzl,<-V8 g3 g2 rfl,<-Zq]
 obtain⟨cE,lK,oD,oS,oR,dS,dD,e1,e2,e3,e4,e5,e6,e7,hL,R⟩:=EVR
 rw[<-e2]at g1
 simp only[EVQ,R,EVH,EVN,reduceIte,Nat.reduceEqDiff,Nat.reduceLeDiff,x200,g1]
end Go.Proofs.YtefpgecinlekpaaGreat
