/- Package integer: division by one word, shifts. -/
import Derived.Test.YtidginchkjhobaaGreatInt
set_option maxHeartbeats 16000000
set_option maxRecDepth 100000
namespace Go.Num
theorem Nr {a:Type}(z x:a):∀(i:Nat) (l:List a),(List.replicate (i+1) z++l).set i x=List.replicate i z++x::l
 |0,l=>rfl
 |i+1,l=>by
  rw[List.replicate_succ,ZU,YQ,Nr z x i l];rfl
theorem ga {a:Type}(z:a)(i:Nat)(l:List a):(List.replicate (i+1) z++l)[i]? =some z:=by grind
theorem sN {a X d:Nat}(b:0<d):(a+4294967296*X) / d=(X%d*4294967296+a) / d+4294967296*(X / d)/\(a+4294967296*X)%d=(X%d*4294967296+a)%d:=by
 have h:=Yz X d;have e:a+4294967296*X=(X%d*4294967296+a)+d*(4294967296*(X / d)):=by
  grind
 simp_all [Nat.add_mul_div_left]
theorem sS {r a d:Nat}(c:r<d)(b:a<4294967296):(r*4294967296+a) / d<4294967296:=by
 apply Yl;omega
theorem na {q Y:Nat}(h:q<4294967296):(q+4294967296*Y)%4294967296=q/\(q+4294967296*Y) / 4294967296=Y:=by omega
end Go.Num
namespace Go.Proofs.YtidginchkjhobaaGreat
open Go.Ev Go.Num
theorem gU {a:Nat}(h:a<4294967296):aN .u64 (.ofNat a) (.ofNat 32)=some (.p (LC (a*4294967296))):=by
 show some (DL.p (.int .u64 (Xe .u64 (.ofNat (a*2^(Nat.min 32 64))))))=_;rw[wrap_u64];congr 3;show Int.ofNat (a*4294967296%18446744073709551616)=_
 grind
theorem uN {a w:Nat}(d:a<4294967296)(c:w<4294967296):UU .u64 (Nat.lor (WR .u64 (.ofNat (a*4294967296))) (WR .u64 (.ofNat w)))=.ofNat (a*4294967296+w):=by
 have e1:WR .u64 (.ofNat (a*4294967296))=2^32*a:=by show a*4294967296%18446744073709551616=_;omega
 have e2:WR .u64 (.ofNat w)=w:=by show w%18446744073709551616=_;omega
 have b:Nat.lor (2^32*a) w=2^32*a+w:=(Nat.two_pow_add_eq_or_of_lt (by simpa using c) a).symm;rw[e1,e2,b];show Int.ofNat (2^32*a+w)=_;congr 1;omega
theorem bF (n:Nat):pI (n+1)=.ofNat n:=rfl
theorem fS:pI 0=.negSucc 0:=rfl
theorem mZ {E:Xa}{K:Nat}{q:PL}{a:P'}(s:Us q a)(o:WG a)(F:a.length<10000000000000){d:Nat}(c:0<d)(D:d<4294967296)(t:Nat):∀(i:Nat),i<=a.length->∀(k:Nat),i<k->
  ∃e,Xb E K 0 [0,1,6,7,8] x189_1 k ⟨[(0,.one (.p q)),(1,LD d),(6,.one (.own 0 0 0 a.length)),(7,LD (val (a.drop i)%d)),(8,.one (.p (.int .i64 (pI i))))],[⟨false,0,1,Wl (List.replicate i 0++dg (a.length-i) (val (a.drop i) / d)),false,t⟩]⟩=
   some (.exit 0,⟨e,[⟨false,0,1,Wl (dg a.length (val a / d)),false,t⟩]⟩)/\Xh e 6=some (.one (.own 0 0 0 a.length))/\Xh e 7=some (LD (val a%d))
 |_,_,0,h=>by omega
 |0,_,k+1,_=>by
  apply VO
  ·rw[Xb];simp only[Xo,Xr,reduceIte,Nat.reduceEqDiff,x189_1,fS,YW];rfl
  ·simp only[Xo,reduceIte,Nat.reduceEqDiff,and_self]
 |i+1,hi,k+1,hk=>by
  obtain⟨e,j,C⟩:=mZ (E:=E) (K:=K) s o F c D t i (by omega) k (by omega);refine⟨e,?_,C⟩;obtain⟨w,n⟩:∃w,a[i]? =some w:=⟨_,Zg (by omega)⟩;have g:=o.get n;have J:i<a.length:=by omega
  have I:=Z1 (val (a.drop (i+1))) c;obtain⟨u,v⟩:=sN (a:=w) (X:=val (a.drop (i+1))) c;have H:=sS I g;obtain⟨m,G⟩:∃m,a.length-i=m+1:=⟨a.length-i-1,by omega⟩;have l:a.length-(i+1)=m:=by omega
  rw[Oq n,u,v,G,dg]at j;rw[l];generalize val (a.drop (i+1))=X at *;obtain⟨e1,e2⟩:=na (Y:=X / d) H;rw[e1,e2]at j;obtain⟨b,rfl⟩:∃b,d=b+1:=⟨d-1,by omega⟩;generalize M:X%(b+1)=r at *;have f:r<4294967296:=by omega
  have x:w%18446744073709551616=w:=Zh (by omega);have L:(r*4294967296+w) / (b+1)%18446744073709551616%4294967296=(r*4294967296+w) / (b+1):=by omega
  have y:(r*4294967296+w) / (b+1)%18446744073709551616=(r*4294967296+w) / (b+1):=by omega
  have z:(r*4294967296+w) / (b+1)%4294967296=(r*4294967296+w) / (b+1):=by omega
  have A:Xe .i64 (.ofNat i-.ofNat 1)=pI i:=UI (by omega);have B:=X7 (ga 0 i (dg m (X / (b+1))));rw[Xb];simp only[Xo,Xr,reduceIte,Nat.reduceEqDiff,Nat.reduceLeDiff,Zw,x189_1,bF,s.idx n,gU f,x,uN f g,y,z,A,B,J,WQ,Nr];exact j
theorem Di {a:P'}(h:WG a){d:Nat}:val (dg a.length (val a / d))=val a / d:=nD (Z7 (Nat.div_le_self ..) (W3 h))
theorem Dg {B:Xs}(c:Std B){h:PL}{a:P'}(i:Us h a)(f:WG a)(p:a.length<10000000000000){d:Nat}(e:0<d)(o:d<4294967296):
  Xu B 189 [.one h,.one (LC d)] (.X9 [.one (.Xn (Uy (Xd (val a / d)))),.one (LC (val a%d))]):=by
 have g:=Rl c (ws:=dg a.length (val a / d)) (by rw[Wd];omega);rw[U3 (jP _ _) (Di f)]at g;refine Xu.of (c.Wa _ _ rfl) (((XS.ge (a.length+1)).and (g.Xk.and c.Xk)).mono fun E K ⟨u,e1,q⟩=> ?_);obtain⟨t,b,m,n⟩:=mZ (E:=E) (K:=K) i f p e o 177 a.length (Ze _) K (by omega);rw[List.drop_length,YH]at b;have r:val []%d=0:=Nat.zero_mod d;have s:∀v,List.replicate a.length 0++dg 0 v=List.replicate a.length 0:=fun v=>ZE _
 rw[r,s]at b;have j:4*a.length<=lim:=by unfold lim;omega
 have k:a.length<=9223372036854775807:=by omega
 have l:Xe .i64 (.ofNat a.length-.ofNat 1)=pI a.length:=UI (by omega);simp only[Xo,Xr,reduceIte,Nat.reduceEqDiff,Nat.reduceLeDiff,Nat.reduceAdd,x189,i.len,j,k,l,Ze,Tn,b,m,n,Tx _ (YI (Wd a.length (val a / d))),Vv,Wd,Um,UA,q,X4,e1]
theorem KF {t s:Nat}(a:s<32):QX .u64 (.ofNat t) (.ofNat s)=some (.p (LC (t / 2^s))):=by
 show some (DL.p (LC (t / 2^(Nat.min s 64))))=_
 grind
theorem ai {s:Nat}(a:s<32):2^s<4294967296:=by
 have :(2:Nat)^s<2^32:=Nat.pow_lt_pow_right (by decide) a;simpa using this
theorem GZ {w s:Nat}(b:w<4294967296)(a:s<32):aN .u64 (.ofNat w) (.ofNat s)=some (.p (LC (w*2^s))):=by
 show some (DL.p (.int .u64 (Xe .u64 (.ofNat (w*2^(Nat.min s 64))))))=_;rw[show Nat.min s 64=s from Yy (by omega),wrap_u64];have:=Nat.mul_lt_mul'' b (ai a)
 grind
theorem Jz {s:Nat}(a:s<32):Xe .u64 (.ofNat (1*2^s)-.ofNat 1)=.ofNat (2^s-1):=by
 have b:0<2^s:=YN (by decide);have c:=ai a
 grind [wrap_u64]
theorem KZ {t s:Nat}(c:t<18446744073709551616)(a:s<32):UU .u64 (Nat.land (WR .u64 (.ofNat t)) (WR .u64 (.ofNat (2^s-1))))=.ofNat (t%2^s):=by
 have b:=ai a;have e1:WR .u64 (.ofNat t)=t:=by show t%18446744073709551616=_;omega
 have e2:WR .u64 (.ofNat (2^s-1))=2^s-1:=by show(2^s-1)%18446744073709551616=_;omega
 rw[e1,e2];show Int.ofNat (t&&&(2^s-1))=_
 simp_all
theorem qG {E:Xa}{K:Nat}{q:PL}{a:P'}(u:Us q a)(n:WG a)(G:a.length<10000000000000){s:Nat}(b:s<32)(t:Nat):∀(i:Nat),i<=a.length->∀(k:Nat),i<k->
  ∃f,Xb E K 0 [0,1,5,6,7] x193_1 k ⟨[(0,.one (.p q)),(1,LB s),(5,.one (.own 0 0 0 a.length)),(6,LD (val (a.drop i)%2^s)),(7,.one (.p (.int .i64 (pI i))))],[⟨false,0,1,Wl (List.replicate i 0++dg (a.length-i) (val (a.drop i) / 2^s)),false,t⟩]⟩=
   some (.exit 0,⟨f,[⟨false,0,1,Wl (dg a.length (val a / 2^s)),false,t⟩]⟩)/\Xh f 5=some (.one (.own 0 0 0 a.length))
 |_,_,0,h=>by omega
 |0,_,k+1,_=>by
  apply VO
  ·rw[Xb];simp only[Xo,Xr,reduceIte,Nat.reduceEqDiff,x193_1,fS,YW];rfl
  ·simp only[Xo,reduceIte,Nat.reduceEqDiff]
 |i+1,hi,k+1,hk=>by
  obtain⟨f,g,F⟩:=qG (E:=E) (K:=K) u n G b t i (by omega) k (by omega);refine⟨f,?_,F⟩;obtain⟨w,l⟩:∃w,a[i]? =some w:=⟨_,Zg (by omega)⟩;have e:=n.get l;have J:i<a.length:=by omega
  have c:0<2^s:=YN (by decide);have M:=ai b;have I:=Z1 (val (a.drop (i+1))) c;obtain⟨v,x⟩:=sN (a:=w) (X:=val (a.drop (i+1))) c;have o:=sS I e;obtain⟨m,H⟩:∃m,a.length-i=m+1:=⟨a.length-i-1,by omega⟩;have j:a.length-(i+1)=m:=by omega
  rw[Oq l,v,x,H,dg]at g;rw[j];generalize val (a.drop (i+1))=X at *;obtain⟨e1,e2⟩:=na (Y:=X / 2^s) o;rw[e1,e2]at g;generalize L:X%2^s=r at *;have d:r<4294967296:=by omega
  have y:w%18446744073709551616=w:=Zh (by omega);have z:(r*4294967296+w) / 2^s%4294967296=(r*4294967296+w) / 2^s:=Zh o;have A:Xe .i64 (.ofNat i-.ofNat 1)=pI i:=UI (by omega);have B:=X7 (ga 0 i (dg m (X / 2^s)));have C:=KZ (t:=r*4294967296+w) (s:=s) (by omega) b;have D:=GZ (w:=1) (s:=s) (by decide) b;rw[Xb];simp only[Xo,Xr,reduceIte,Nat.reduceEqDiff,Nat.reduceLeDiff,Zw,x193_1,bF,u.idx l,gU d,y,uN d e,z,A,B,C,D,Jz b,KF b,J,WQ,Nr];exact g
theorem Ek {B:Xs}(c:Std B){la:PL}{a:P'}(f:Us la a)(d:WG a)(k:a.length<10000000000000){s:Nat}(m:s<32):
  Xu B 193 [.one la,.one (LA s)] (.one (.Xn (Uy (Xd (val a / 2^s))))):=by
 have e:=Rl c (ws:=dg a.length (val a / 2^s)) (by rw[Wd];omega);rw[U3 (jP _ _) (Di d)]at e;refine Xu.of (c.Wa _ _ rfl) (((XS.ge (a.length+1)).and (e.Xk.and c.Xk)).mono fun E K ⟨q,e1,l⟩=> ?_);obtain⟨p,b,j⟩:=qG (E:=E) (K:=K) f d k m 177 a.length (Ze _) K (by omega);rw[List.drop_length,YH]at b;have n:val []%2^s=0:=Nat.zero_mod _;have o:∀v,List.replicate a.length 0++dg 0 v=List.replicate a.length 0:=fun v=>ZE _
 rw[n,o]at b;have g:4*a.length<=lim:=by unfold lim;omega
 have h:a.length<=9223372036854775807:=by omega
 have i:Xe .i64 (.ofNat a.length-.ofNat 1)=pI a.length:=UI (by omega);simp only[Xo,Xr,reduceIte,Nat.reduceEqDiff,Nat.reduceLeDiff,Nat.reduceAdd,x193,f.len,g,h,i,Ze,Tn,b,j,Tx _ (YI (Wd a.length (val a / 2^s))),Vv,Wd,Um,UA,l,X4,e1]
end Go.Proofs.YtidginchkjhobaaGreat
namespace Go.Num
theorem oV (i v:Nat):dg (i+1) v=dg i v++[v / 4294967296^i%4294967296]:=by rw[S8];rfl
theorem xM {n u v:Nat}(h:u%4294967296^n=v%4294967296^n):dg n u=dg n v:=by rw[<-vE n u,h,vE]
theorem Bc {X w p c:Nat}(a:0<p):(X+w*p)*c / p=w*c+X*c / p/\(X+w*p)*c%p=X*c%p:=by grind [ZG,ZR,Z3,Nat.add_mul_div_left,Nat.add_mul_mod_self_left]
theorem Kf {a:Type}(l:List a)(z x:a)(k:Nat):(l++List.replicate (k+1) z).set l.length x=l++[x]++List.replicate k z:=by grind
theorem Kg {a:Type}(l:List a)(z:a)(k:Nat):(l++List.replicate (k+1) z)[l.length]? =some z:=by grind
end Go.Num
namespace Go.Proofs.YtidginchkjhobaaGreat
open Go.Ev Go.Num
theorem Lp {c w s:Nat}(f:w<4294967296)(d:c<2^s)(e:s<32):UU .u64 (Nat.lor (WR .u64 (.ofNat (w*2^s))) (WR .u64 (.ofNat c)))=.ofNat (w*2^s+c):=by
 have b:=ai e;have g:=Nat.mul_lt_mul'' f b;have e1:WR .u64 (.ofNat (w*2^s))=2^s*w:=by show w*2^s%18446744073709551616=_;grind
 have e2:WR .u64 (.ofNat c)=c:=by show c%18446744073709551616=_;omega
 have a:Nat.lor (2^s*w) c=2^s*w+c:=(Nat.two_pow_add_eq_or_of_lt d w).symm;rw[e1,e2,a,ZR];rfl
def K1 (T:List (Nat×DV))(la:PL)(s n N i c:Nat):Prop:=
 Xh T 0=some (.one (.p la))/\Xh T 1=some (LB s)/\Xh T 5=some (.one (.own N 0 0 (n+1)))/\Xh T 6=some (LD c)/\Xh T 14=some (LB n)/\Xh T 15=some (LB i)
theorem qH {E:Xa}{K:Nat}{q:PL}{a:P'}(z:Us q a)(l:WG a)(M:a.length<10000000000000){s:Nat}(j:s<32)(t:Nat)(H:V'):∀(d i:Nat),i+d=a.length->∀(k:Nat),d<k->∀T,K1 T q s a.length H.length i (val (a.take i)*2^s / 4294967296^i)->
  ∃g,Xb E K 0 [0,1,5,6,14,15] x191_1 k ⟨T,H++[⟨false,0,1,Wl (dg i (val (a.take i)*2^s)++List.replicate (d+1) 0),false,t⟩]⟩=
   some (.exit 0,⟨g,H++[⟨false,0,1,Wl (dg a.length (val a*2^s)++[0]),false,t⟩]⟩)/\Xh g 0=some (.one (.p q))/\Xh g 5=some (.one (.own H.length 0 0 (a.length+1)))/\Xh g 6=some (LD (val a*2^s / 4294967296^a.length))
 |_,_,_,0,h=>by omega
 |0,i,hi,k+1,_=>by
  obtain rfl:i=a.length:=by omega
  intro T ⟨r,A,u,v,b,e⟩;apply VO
  ·rw[Xb];simp only[Xo,Xr,reduceIte,x191_1,Zv,Yp,b,e];rfl
  ·simp only[Xo,reduceIte,Nat.reduceEqDiff,r,u,v,and_self,Yp]
 |d+1,i,hi,k+1,hk=>by
  intro T ⟨r,A,u,v,b,e⟩;have y:=qH (E:=E) (K:=K) z l M j t H d (i+1) (by omega) k (by omega);obtain⟨w,m⟩:∃w,a[i]? =some w:=⟨_,Zg (by omega)⟩;have f:=l.get m;have n:i<a.length:=by omega
  have o:i<a.length+1:=by omega
  have N:0<4294967296^i:=YN (by decide);obtain⟨e1,e2⟩:=Bc (X:=val (a.take i)) (w:=w) (c:=2^s) N;have J:val (a.take i)<4294967296^i:=by
   have:=W3 (ws:=a.take i) (fun x n=>l x (YC n))
   grind
  have L:val (a.take i)*2^s / 4294967296^i<2^s:=Yl (Yw J (YN (by decide)));have P:=ai j;rw[VI m,oV,xM e2,ZQ,<-YX,e1]at y;generalize val (a.take i)*2^s / 4294967296^i=c at *;have O:=Wd i (val (a.take i)*2^s);generalize dg i (val (a.take i)*2^s)=D at *;have B:w%18446744073709551616=w:=Zh (by omega);have C:Xe .i64 (.ofNat (i+1))=.ofNat (i+1):=wrap_i64 (by omega);have F:(D++List.replicate (d+1+1) 0)[i]? =some 0:=by grind
  have G:=X7 F;have I:∀x,(D++List.replicate (d+1+1) 0).set i x=D++[x]++List.replicate (d+1) 0:=fun x=>by grind
  rw[Xb];simp only[Xo,kT,Xr,reduceIte,Nat.reduceEqDiff,Nat.reduceLeDiff,Zw,x191_1,r,A,u,v,b,e,n,o,z.idx m,B,GZ f j,Lp f L j,C,G,I,WQ];exact y _ ⟨rfl,rfl,rfl,rfl,rfl,rfl⟩
theorem wm {B:Xs}(f:Std B){b:PL}{a:P'}(h:Us b a)(d:WG a)(w:a.length<10000000000000){s:Nat}(g:s<32)(H:V'):
  Ut B 191 [.one (.p b),LB s] H (.one (.own H.length 0 0 (a.length+1))) (H++[⟨false,0,1,Wl (dg (a.length+1) (val a*2^s)),false,177⟩]):=by
 refine Ut.of (f.Wa _ _ rfl) (((XS.ge (a.length+1)).and f.Xk).mono fun E K ⟨F,J⟩=> ?_);have z:val (a.take 0)*2^s / 4294967296^0=0:=by simp[val]
 obtain⟨C,e,r,t,u⟩:=qH (E:=E) (K:=K) h d w g 177 H a.length 0 (by omega) K (by omega) [(0,.one (.p b)),(1,LB s),(5,.one (.own H.length 0 0 (a.length+1))),(6,LD 0),(14,LB a.length),(15,LB 0)] ⟨rfl,rfl,rfl,by rw[z];rfl,rfl,rfl⟩;have A:∀v,dg 0 v++List.replicate (a.length+1) 0=List.replicate (a.length+1) 0:=fun v=>ZF _
 rw[A]at e;have I:=ai g;have y:=W3 d;have G:val a*2^s / 4294967296^a.length<2^s:=Yl (Yw y (YN (by decide)));rw[oV];generalize val a*2^s / 4294967296^a.length=c at *;have i:=Wd a.length (val a*2^s);generalize dg a.length (val a*2^s)=D at *;have m:(D++[0])[a.length]? =some 0:=by grind
 have n:=X7 m;have o:∀x,(D++[0]).set a.length x=D++[x]:=fun x=>by rw[<-i];simp
 have j:4*(a.length+1)<=lim:=by unfold lim;omega
 have k:a.length+1<=9223372036854775807:=by omega
 have l:Xe .i64 (.ofNat (a.length+1))=.ofNat (a.length+1):=wrap_i64 (by omega);have q:a.length<a.length+1:=by omega
 simp only[Xo,Vx,kT,Xr,reduceIte,Nat.reduceEqDiff,Nat.reduceLeDiff,Nat.reduceAdd,Zw,x191,h.len,j,k,l,n,o,q,Ze,Tn,WQ,e,r,t,u]
end Go.Proofs.YtidginchkjhobaaGreat
namespace Go.Num
theorem IL (q r v1 v2 u2:Nat):q*(v1*4294967296+v2)=q*v1*4294967296+q*v2/\(q*v1+r)*4294967296+u2=q*v1*4294967296+r*4294967296+u2:=by grind
theorem aC {q r v1 v2 a u2:Nat}(h:q*v1+r=a)(b:q*v2<=r*4294967296+u2):q*(v1*4294967296+v2)<=a*4294967296+u2:=by grind
theorem jr {q r v1 v2 a u2:Nat}(h:q*v1+r=a)(b:r*4294967296+u2<q*v2):a*4294967296+u2<q*(v1*4294967296+v2):=by grind
theorem QJ {q r v1 v2 a u2:Nat}(h:q*v1+r=a)(d:4294967296<=r)(c:v2<4294967296)(e:a<v1*4294967296+4294967296):q<4294967296/\q*(v1*4294967296+v2)<=a*4294967296+u2:=by
 have b:q<4294967296:=by
  rcases Yx q 4294967296 with h1|h1
  ·exact h1
  ·have:=Zn v1 h1;omega
 refine⟨b,aC h ?_⟩;have:=ZT (Nat.le_sub_one_of_lt b) (Nat.le_sub_one_of_lt c);omega
def tN (v1 v2 top u2 q:Nat):Prop:=q<4294967296/\q*(v1*4294967296+v2)<=top*4294967296+u2/\(4294967295<=q\/top*4294967296+u2<(q+1)*(v1*4294967296+v2))
end Go.Num
namespace Go.Proofs.YtidginchkjhobaaGreat
open Go.Ev Go.Num
section
variable {E:Xa}{K:Nat}{H:V'}{iu iv j m tu tv k:Nat}{U V:P'}{v1 v2 u2 p q r:Nat}
theorem CE (L:H[iu]? =some ⟨false,0,1,Wl U,false,tu⟩)(n:H[iv]? =some ⟨false,0,1,Wl V,false,tv⟩)(G:m<10000000000000)(d:V[m+1]? =some v1)(e:V[m]? =some v2)(f:U[j+m]? =some u2)(q:v1<4294967296)(s:v2<4294967296)(t:u2<4294967296)(J:r<4294967296)(I:p<=4294967298)(l:4294967296<=p+1)(i:¬4294967296<=r+v1):Xb E K 0 [0,1,5,7,8] x192_1 (k+1) ⟨[(0,.one (.own iu 0 j (m+3))),(1,.one (.own iv 0 0 (m+2))),(5,LB (m+2)),(7,LD (p+1)),(8,LD r)],H⟩=Xb E K 0 [0,1,5,7,8] x192_1 k ⟨[(0,.one (.own iu 0 j (m+3))),(1,.one (.own iv 0 0 (m+2))),(5,LB (m+2)),(7,LD p),(8,LD (r+v1))],H⟩:=by
 have T:Xe .i64 (.ofNat (m+2)-.ofNat 2)=.ofNat m:=by rw[Wi (by omega) (by omega)];rfl
 have o:Xe .i64 (.ofNat (m+2)-.ofNat 1)=.ofNat (m+1):=by rw[Wi (by omega) (by omega)];rfl
 have w1:=X7 d;have W:=X7 e;have X:=X7 f;have N:m<m+2:=by omega
 have m2:m+1<m+2:=by omega
 have O:m<m+3:=by omega
 have a:v1%18446744073709551616=v1:=Zh (by omega);have x:v2%18446744073709551616=v2:=Zh (by omega);have y:u2%18446744073709551616=u2:=Zh (by omega);have c:(r+v1)%18446744073709551616=r+v1:=Zh (by omega);have b:Xe .u64 (.ofNat (p+1)-.ofNat 1)=.ofNat p:=by grind [wrap_u64]
 obtain⟨u,M,P,S,Q,w,v,z,g,A,B,C,D,F,h,R⟩:=SH;rw[<-g,h];simp only[TD,R,Xr,reduceIte,Nat.reduceEqDiff,Nat.reduceAdd,Zw,x192_1,n,o,w1,m2,a,b,c,l,i]
theorem zQ (M:H[iu]? =some ⟨false,0,1,Wl U,false,tu⟩)(o:H[iv]? =some ⟨false,0,1,Wl V,false,tv⟩)(I:m<10000000000000)(e:V[m+1]? =some v1)(f:V[m]? =some v2)(g:U[j+m]? =some u2)(s:v1<4294967296)(t:v2<4294967296)(u:u2<4294967296)(L:r<4294967296)(J:p<=4294967298)(n:4294967296<=p+1)(l:4294967296<=r+v1):∃a,Xb E K 0 [0,1,5,7,8] x192_1 (k+1) ⟨[(0,.one (.own iu 0 j (m+3))),(1,.one (.own iv 0 0 (m+2))),(5,LB (m+2)),(7,LD (p+1)),(8,LD r)],H⟩=some (.exit 0,⟨a,H⟩)/\Xh a 0=some (.one (.own iu 0 j (m+3)))/\Xh a 1=some (.one (.own iv 0 0 (m+2)))/\Xh a 5=some (LB (m+2))/\Xh a 7=some (LD p):=by
 have W:Xe .i64 (.ofNat (m+2)-.ofNat 2)=.ofNat m:=by rw[Wi (by omega) (by omega)];rfl
 have q:Xe .i64 (.ofNat (m+2)-.ofNat 1)=.ofNat (m+1):=by rw[Wi (by omega) (by omega)];rfl
 have w1:=X7 e;have X:=X7 f;have Y:=X7 g;have O:m<m+2:=by omega
 have m2:m+1<m+2:=by omega
 have P:m<m+3:=by omega
 have b:v1%18446744073709551616=v1:=Zh (by omega);have y:v2%18446744073709551616=v2:=Zh (by omega);have z:u2%18446744073709551616=u2:=Zh (by omega);have d:(r+v1)%18446744073709551616=r+v1:=Zh (by omega);have c:Xe .u64 (.ofNat (p+1)-.ofNat 1)=.ofNat p:=by grind [wrap_u64]
 apply VO
 ·obtain⟨v,N,Q,T,S,x,w,A,h,B,C,D,F,G,i,R⟩:=SH;rw[<-h,i];simp only[TD,R,Xr,reduceIte,Nat.reduceEqDiff,Nat.reduceAdd,Zw,x192_1,o,q,w1,m2,b,c,d,n,l];rfl
 ·simp only[Xo,reduceIte,Nat.reduceEqDiff,and_self]
theorem CD (y:H[iu]? =some ⟨false,0,1,Wl U,false,tu⟩)(A:H[iv]? =some ⟨false,0,1,Wl V,false,tv⟩)(X:m<10000000000000)(l:V[m+1]? =some v1)(n:V[m]? =some v2)(o:U[j+m]? =some u2)(J:v1<4294967296)(b:v2<4294967296)(c:u2<4294967296)(a:r<4294967296)(v:¬4294967296<=p+1)(w:r*4294967296+u2<(p+1)*v2)(t:¬4294967296<=r+v1):Xb E K 0 [0,1,5,7,8] x192_1 (k+1) ⟨[(0,.one (.own iu 0 j (m+3))),(1,.one (.own iv 0 0 (m+2))),(5,LB (m+2)),(7,LD (p+1)),(8,LD r)],H⟩=Xb E K 0 [0,1,5,7,8] x192_1 k ⟨[(0,.one (.own iu 0 j (m+3))),(1,.one (.own iv 0 0 (m+2))),(5,LB (m+2)),(7,LD p),(8,LD (r+v1))],H⟩:=by
 have F:Xe .i64 (.ofNat (m+2)-.ofNat 2)=.ofNat m:=by rw[Wi (by omega) (by omega)];rfl
 have D:Xe .i64 (.ofNat (m+2)-.ofNat 1)=.ofNat (m+1):=by rw[Wi (by omega) (by omega)];rfl
 have w1:=X7 l;have G:=X7 n;have I:=X7 o;have B:m<m+2:=by omega
 have m2:m+1<m+2:=by omega
 have C:m<m+3:=by omega
 have d:v1%18446744073709551616=v1:=Zh (by omega);have e:v2%18446744073709551616=v2:=Zh (by omega);have f:u2%18446744073709551616=u2:=Zh (by omega);have h:(r+v1)%18446744073709551616=r+v1:=Zh (by omega);have g:Xe .u64 (.ofNat (p+1)-.ofNat 1)=.ofNat p:=by grind [wrap_u64]
 have i:(p+1)*v2%18446744073709551616=(p+1)*v2:=by
  have:=Ss (x:=p+1) (by omega) b (z:=0) (u:=0) (by omega) (by omega);omega
 obtain⟨L,Y,Z,oS,oR,N,M,O,q,P,Q,S,T,W,s,R⟩:=SH;rw[<-q,s];simp only[TD,R,Xr,reduceIte,Nat.reduceEqDiff,Nat.reduceAdd,Zw,x192_1,y,A,D,F,w1,G,I,B,m2,C,d,e,f,g,h,i,v,gU a,uN a c,w,t]
theorem zP (A:H[iu]? =some ⟨false,0,1,Wl U,false,tu⟩)(B:H[iv]? =some ⟨false,0,1,Wl V,false,tv⟩)(Y:m<10000000000000)(n:V[m+1]? =some v1)(o:V[m]? =some v2)(q:U[j+m]? =some u2)(L:v1<4294967296)(c:v2<4294967296)(d:u2<4294967296)(b:r<4294967296)(w:¬4294967296<=p+1)(y:r*4294967296+u2<(p+1)*v2)(v:4294967296<=r+v1):∃a,Xb E K 0 [0,1,5,7,8] x192_1 (k+1) ⟨[(0,.one (.own iu 0 j (m+3))),(1,.one (.own iv 0 0 (m+2))),(5,LB (m+2)),(7,LD (p+1)),(8,LD r)],H⟩=some (.exit 0,⟨a,H⟩)/\Xh a 0=some (.one (.own iu 0 j (m+3)))/\Xh a 1=some (.one (.own iv 0 0 (m+2)))/\Xh a 5=some (LB (m+2))/\Xh a 7=some (LD p):=by
 have G:Xe .i64 (.ofNat (m+2)-.ofNat 2)=.ofNat m:=by rw[Wi (by omega) (by omega)];rfl
 have F:Xe .i64 (.ofNat (m+2)-.ofNat 1)=.ofNat (m+1):=by rw[Wi (by omega) (by omega)];rfl
 have w1:=X7 n;have I:=X7 o;have J:=X7 q;have C:m<m+2:=by omega
 have m2:m+1<m+2:=by omega
 have D:m<m+3:=by omega
 have e:v1%18446744073709551616=v1:=Zh (by omega);have f:v2%18446744073709551616=v2:=Zh (by omega);have g:u2%18446744073709551616=u2:=Zh (by omega);have i:(r+v1)%18446744073709551616=r+v1:=Zh (by omega);have h:Xe .u64 (.ofNat (p+1)-.ofNat 1)=.ofNat p:=by grind [wrap_u64]
 have l:(p+1)*v2%18446744073709551616=(p+1)*v2:=by
  have:=Ss (x:=p+1) (by omega) c (z:=0) (u:=0) (by omega) (by omega);omega
 apply VO
 ·obtain⟨M,Z,oD,oS,oR,O,N,P,s,Q,S,T,W,X,t,R⟩:=SH;rw[<-s,t];simp only[TD,R,Xr,reduceIte,Nat.reduceEqDiff,Nat.reduceAdd,Zw,x192_1,A,B,F,G,w1,I,J,C,m2,D,e,f,g,h,i,l,w,gU b,uN b d,y,v];rfl
 ·simp only[Xo,reduceIte,Nat.reduceEqDiff,and_self]
theorem Fl (t:H[iu]? =some ⟨false,0,1,Wl U,false,tu⟩)(u:H[iv]? =some ⟨false,0,1,Wl V,false,tv⟩)(P:m<10000000000000)(g:V[m+1]? =some v1)(h:V[m]? =some v2)(i:U[j+m]? =some u2)(A:v1<4294967296)(B:v2<4294967296)(c:u2<4294967296)(b:r<4294967296)(o:¬4294967296<=q)(s:¬r*4294967296+u2<q*v2):∃a,Xb E K 0 [0,1,5,7,8] x192_1 (k+1) ⟨[(0,.one (.own iu 0 j (m+3))),(1,.one (.own iv 0 0 (m+2))),(5,LB (m+2)),(7,LD q),(8,LD r)],H⟩=some (.exit 0,⟨a,H⟩)/\Xh a 0=some (.one (.own iu 0 j (m+3)))/\Xh a 1=some (.one (.own iv 0 0 (m+2)))/\Xh a 5=some (LB (m+2))/\Xh a 7=some (LD q):=by
 have x:Xe .i64 (.ofNat (m+2)-.ofNat 2)=.ofNat m:=by rw[Wi (by omega) (by omega)];rfl
 have X:Xe .i64 (.ofNat (m+2)-.ofNat 1)=.ofNat (m+1):=by rw[Wi (by omega) (by omega)];rfl
 have w1:=X7 g;have y:=X7 h;have z:=X7 i;have v:m<m+2:=by omega
 have m2:m+1<m+2:=by omega
 have w:m<m+3:=by omega
 have G:v1%18446744073709551616=v1:=Zh (by omega);have d:v2%18446744073709551616=v2:=Zh (by omega);have e:u2%18446744073709551616=u2:=Zh (by omega);have f:q*v2%18446744073709551616=q*v2:=by
  omega
 apply VO
 ·obtain⟨C,Q,S,W,T,F,D,I,l,J,L,M,N,O,n,R⟩:=SH;rw[<-l,n];simp only[TD,R,Xr,reduceIte,Nat.reduceEqDiff,Nat.reduceAdd,Zw,x192_1,t,u,x,y,z,v,w,d,e,f,o,gU b,uN b c,s];rfl
 ·simp only[Xo,reduceIte,Nat.reduceEqDiff,and_self]
theorem vl (B:H[iu]? =some ⟨false,0,1,Wl U,false,tu⟩)(C:H[iv]? =some ⟨false,0,1,Wl V,false,tv⟩)(z:m<10000000000000)(v:V[m+1]? =some v1)(w:V[m]? =some v2)(x:U[j+m]? =some u2)(t:v1<4294967296)(g:v2<4294967296)(u:u2<4294967296){b:Nat}(G:b<v1*4294967296+4294967296):∀(d q r:Nat),q*v1+r=b->r<4294967296->q<=4294967298->4294967296<=r+d*v1->(4294967296<=q+1\/b*4294967296+u2<(q+1)*(v1*4294967296+v2))->∀k,d<k->
  ∃a s,Xb E K 0 [0,1,5,7,8] x192_1 k ⟨[(0,.one (.own iu 0 j (m+3))),(1,.one (.own iv 0 0 (m+2))),(5,LB (m+2)),(7,LD q),(8,LD r)],H⟩=some (.exit 0,⟨a,H⟩)/\(Xh a 0=some (.one (.own iu 0 j (m+3)))/\Xh a 1=some (.one (.own iv 0 0 (m+2)))/\Xh a 5=some (LB (m+2))/\Xh a 7=some (LD s))/\tN v1 v2 b u2 s:=by
 intro d;induction d with
 |zero=>omega
 |succ d I=>
  intro q r e A O L N k M;obtain⟨k,rfl⟩:∃J,k=J+1:=⟨k-1,by omega⟩;by_cases o:4294967296<=q
  ·obtain⟨p,rfl⟩:∃p,q=p+1:=⟨q-1,by omega⟩;have i:p*v1+(r+v1)=b:=by grind
   by_cases l:4294967296<=r+v1
   ·obtain⟨D,F⟩:=QJ (u2:=u2) i l g G;obtain⟨a,c,f⟩:=zQ (E:=E) (K:=K) (k:=k) B C z v w x t g u A (by omega) o l;exact⟨a,p,c,f,D,F,.inl (by omega)⟩
   ·obtain⟨a,s,c,f⟩:=I p (r+v1) i (by omega) (by omega) (by grind) (.inl o) k (by omega)
    grind [CE]
  ·by_cases y:r*4294967296+u2<q*v2
   ·obtain⟨p,rfl⟩:∃p,q=p+1:=by
     rcases Yn q with h|h
     ·subst h;omega
     simp_all
    have i:p*v1+(r+v1)=b:=by grind
    have n:=jr e y;by_cases l:4294967296<=r+v1
    ·obtain⟨D,F⟩:=QJ (u2:=u2) i l g G;obtain⟨a,c,f⟩:=zP (E:=E) (K:=K) (k:=k) B C z v w x t g u A o y l;exact⟨a,p,c,f,D,F,.inr n⟩
    ·obtain⟨a,s,c,f⟩:=I p (r+v1) i (by omega) (by omega) (by grind) (.inr n) k (by omega)
     grind [CD]
   ·obtain⟨a,c,f⟩:=Fl (E:=E) (K:=K) (k:=k) B C z v w x t g u A o y;refine⟨a,q,c,f,by omega,aC e (by omega),?_⟩;omega
end
end Go.Proofs.YtidginchkjhobaaGreat
namespace Go.Num
theorem ND {a:Type}(P R:List a)(x:a){k:Nat}(h:P.length=k):(P++x::R)[k]? =some x:=by subst h;simp
theorem NC {a:Type}(P R:List a)(x y:a){k:Nat}(h:P.length=k):(P++x::R).set k y=P++[y]++R:=by subst h;simp
theorem Qc {a:Type}{H:List a}{i:Nat}{b:a}(h:H[i]? =some b):H.set i b=H:=by grind [List.set_getElem_self]
theorem PI {a:Type}{H:List a}{i:Nat}{b c:a}(h:H[i]? =some b):(H.set i c)[i]? =some c:=by grind
theorem de {a:Type}{H:List a}{i j:Nat}{b c:a}(d:i≠j)(h:H[j]? =some b):(H.set i c)[j]? =some b:=by grind
theorem WG.snoc {a:P'}{w:Nat}(h:WG a)(c:w<4294967296):WG (a++[w]):=by
 intro x b;rcases ZW.1 b with h1|h1
 ·exact h x h1
 grind
theorem aS (a:P')(w:Nat){i:Nat}(h:a.length=i):val (a++[w])=val a+w*4294967296^i:=by simp_all [PC,val,ZR]
theorem Qh (x i:Nat):x%4294967296^(i+1)=x%4294967296^i+4294967296^i*(x / 4294967296^i%4294967296):=Nat.mod_pow_succ
theorem oW (k x i:Nat):dg (k+1) (x / 4294967296^i)=x / 4294967296^i%4294967296::dg k (x / 4294967296^(i+1)):=by grind [dg,YX]
theorem ph {low hi:P'}{U j n i:Nat}(b:low.length=j)(a:i<n):(low++(dg n U++hi))[j+i]? =some (U / 4294967296^i%4294967296):=by grind [Wd,dO]
theorem wc {Y q d P i a g c b w t f e:Nat}(h:Y+q*d=a+(c+b)*P)(k:t=q*i+c)(j:f=t / 4294967296)(l:w+t%4294967296+b=g+4294967296*e):
  (Y+w*P)+q*(d+P*i)=a+P*g+(f+e)*(P*4294967296):=by grind [Yz]
end Go.Num
namespace Go.Proofs.YtidginchkjhobaaGreat
open Go.Ev Go.Num
section
variable {E:Xa}{K:Nat}{iu iv j n tu tv:Nat}{low hi Vw:P'}{U V q:Nat}
theorem qy (B:iu≠iv)(A:low.length=j)(hn:n<10000000000000)(Y:q<4294967296)(X:∀i,i<n->Vw[i]? =some (V / 4294967296^i%4294967296)):∀(d i k:Nat) (H:V') (e:P') (c b:Nat),i+d=n->d<k->
  H[iu]? =some ⟨false,0,1,Wl (low++e++(dg (d+1) (U / 4294967296^i)++hi)),false,tu⟩->H[iv]? =some ⟨false,0,1,Wl Vw,false,tv⟩->e.length=i->WG e->c<4294967296->b<=1->val e+q*(V%4294967296^i)=U%4294967296^i+(c+b)*4294967296^i->
  ∃a f v s,Xb E K 0 [0,1,5,7,9,10,82,83] x192_2 k ⟨[(0,.one (.own iu 0 j (n+1))),(1,.one (.own iv 0 0 n)),(5,LB n),(7,LD q),(9,LD c),(10,LD b),(82,LB n),(83,LB i)],H⟩=
   some (.exit 2,⟨a,H.set iu ⟨false,0,1,Wl (low++f++(dg 1 (U / 4294967296^n)++hi)),false,tu⟩⟩)/\
   (Xh a 0=some (.one (.own iu 0 j (n+1)))/\Xh a 1=some (.one (.own iv 0 0 n))/\Xh a 5=some (LB n)/\Xh a 7=some (LD q)/\Xh a 9=some (LD v)/\Xh a 10=some (LD s))/\
   f.length=n/\WG f/\v<4294967296/\s<=1/\val f+q*(V%4294967296^n)=U%4294967296^n+(v+s)*4294967296^n
 |_,_,0,_,_,_,_,_,h,_,_,_,_,_,_,_=>by omega
 |0,i,k+1,H,e,c,b,hi',_,hu,hv,h1,h2,h3,h4,h5=>by
  obtain rfl:i=n:=by omega
  rw[show(dg (0+1) (U / 4294967296^i))=dg 1 (U / 4294967296^i)from rfl]at hu;have :∃a,Xb E K 0 [0,1,5,7,9,10,82,83] x192_2 (k+1) ⟨[(0,.one (.own iu 0 j (i+1))),(1,.one (.own iv 0 0 i)),(5,LB i),(7,LD q),(9,LD c),(10,LD b),(82,LB i),(83,LB i)],H⟩=some (.exit 2,⟨a,H⟩)/\
    (Xh a 0=some (.one (.own iu 0 j (i+1)))/\Xh a 1=some (.one (.own iv 0 0 i))/\Xh a 5=some (LB i)/\Xh a 7=some (LD q)/\Xh a 9=some (LD c)/\Xh a 10=some (LD b)):=by
   apply VO
   ·obtain⟨cE,lK,oD,oS,oR,dS,dD,e1,e2,e3,e4,e5,e6,e7,M,R⟩:=SH;rw[<-e2,M];simp only[TD,R,Xr,reduceIte,Nat.reduceEqDiff,x192_2,Zv];rfl
   ·simp only[Xo,reduceIte,Nat.reduceEqDiff,and_self]
  obtain⟨a,r,L⟩:=this;exact⟨a,e,c,b,by rw[Qc hu];exact r,L,h1,h2,h3,h4,h5⟩
 |d+1,i,k+1,H,e,c,b,hi',hk,hu,hv,h1,h2,h3,h4,h5=>by
  have y:i<n:=by omega
  have F:=X i y;obtain⟨m,J⟩:∃m,m=V / 4294967296^i%4294967296:=⟨_,rfl⟩;obtain⟨g,I⟩:∃g,g=U / 4294967296^i%4294967296:=⟨_,rfl⟩;have P:m<4294967296:=by omega
  have a0:g<4294967296:=by omega
  rw[oW,ZU,<-I]at hu;rw[<-J]at F;have D:(low++e).length=j+i:=by grind
  have ht:=Ss Y P (z:=0) (u:=c) (by omega) h3;obtain⟨t,G⟩:∃t,t=q*m+c:=⟨_,rfl⟩;have f1:m%18446744073709551616=m:=Zh (by omega);have f2:g%18446744073709551616=g:=Zh (by omega);have f3:q*m%18446744073709551616=q*m:=Zh (by omega);have T:t%18446744073709551616=t:=Zh (by omega);have W:t%4294967296%18446744073709551616=t%4294967296:=Zh (by omega);have f6:Xe .i64 (.ofNat (i+1))=.ofNat (i+1):=wrap_i64 (by omega);obtain⟨x,Z,p1⟩:∃x,Xe .u64 (.ofNat g-.ofNat (t%4294967296))=.ofNat x/\x=(g+(18446744073709551616-t%4294967296))%18446744073709551616:=⟨_,No (by omega),rfl⟩;obtain⟨l,k2,p2⟩:∃l,Xe .u64 (.ofNat x-.ofNat b)=.ofNat l/\l=(x+(18446744073709551616-b))%18446744073709551616:=⟨_,No (by omega),rfl⟩;have Q:l%4294967296+t%4294967296+b=g+4294967296*(l / 9223372036854775808):=by omega
  have N:l / 9223372036854775808<=1:=by omega
  have O:t / 4294967296<4294967296:=by omega
  have C:=wc h5 G rfl Q;have o:l%4294967296<4294967296:=by omega
  obtain⟨w,S⟩:∃w,w=l%4294967296:=⟨_,rfl⟩;rw[<-S]at C o;obtain⟨a,f,v,s,r,L,g3,g4,g5,g6,g7⟩:=qy B A hn Y X d (i+1) k (H.set iu ⟨false,0,1,Wl (low++(e++[w])++(dg (d+1) (U / 4294967296^(i+1))++hi)),false,tu⟩) (e++[w]) (t / 4294967296) (l / 9223372036854775808) (by omega) (by omega)
   (PI hu) (de B hv) (by simp[h1]) (h2.snoc o) O N (by grind [aS,Qh])
  rw[List.set_set]at r;refine⟨a,f,v,s,?_,L,g3,g4,g5,g6,g7⟩;rw[<-Zq low e [w],<-NC (low++e) _ g w D]at r;have a1:=X7 F;have a2:=X7 (ND (low++e) (dg (d+1) (U / 4294967296^(i+1))++hi) g D);have a3:i<n+1:=by omega
  rw[G]at T W Z;have f7:t=q*m+c:=G;obtain⟨cE,lK,oD,oS,oR,dS,dD,e1,e2,e3,e4,e5,e6,e7,M,R⟩:=SH;rw[<-e2]at r⊢;rw[M];subst S G;simp only[TD,R,Xr,reduceIte,Nat.reduceEqDiff,Nat.reduceLeDiff,Zw,x192_2,hu,hv,a1,a2,a3,y,f1,f2,f3,T,W,f6,Z,k2,WQ];exact r
end
end Go.Proofs.YtidginchkjhobaaGreat
namespace Go.Num
theorem xX {Y a P e b f c w d:Nat}(h:Y+c*P=b+a)(g:w+4294967296*d=f+e+c):
  (Y+w*P)+d*(P*4294967296)=(b+f*P)+(a+P*e):=by grind
theorem AT {ws:P'}{n i:Nat}(h:i<n)(b:ws.length=n):∃w,ws[i]? =some w/\ws.drop i=w::ws.drop (i+1)/\val (ws.take (i+1))=val (ws.take i)+w*4294967296^i:=by
 obtain⟨w,a⟩:∃w,ws[i]? =some w:=⟨_,Zg (by omega)⟩;refine⟨w,a,?_,VI a⟩
 grind [Z5]
end Go.Num
namespace Go.Proofs.YtidginchkjhobaaGreat
open Go.Ev Go.Num
section
variable {E:Xa}{K:Nat}{iu iv j n tu tv q:Nat}{low hi Vw ys:P'}{V:Nat}
theorem qS (u:iu≠iv)(s:low.length=j)(hn:n<10000000000000)(x:ys.length=n)(r:WG ys)(D:∀i,i<n->Vw[i]? =some (V / 4294967296^i%4294967296)):∀(d i k:Nat) (H:V') (b:P') (c:Nat),i+d=n->d<k->
  H[iu]? =some ⟨false,0,1,Wl (low++b++(ys.drop i++hi)),false,tu⟩->H[iv]? =some ⟨false,0,1,Wl Vw,false,tv⟩->b.length=i->WG b->c<=1->val b+c*4294967296^i=val (ys.take i)+V%4294967296^i->
  ∃a e o,Xb E K 0 [0,1,5,7,9,135,136] x192_3 k ⟨[(0,.one (.own iu 0 j (n+1))),(1,.one (.own iv 0 0 n)),(5,LB n),(7,LD q),(9,LD c),(135,LB n),(136,LB i)],H⟩=
   some (.exit 4,⟨a,H.set iu ⟨false,0,1,Wl (low++e++hi),false,tu⟩⟩)/\
   (Xh a 0=some (.one (.own iu 0 j (n+1)))/\Xh a 5=some (LB n)/\Xh a 7=some (LD q)/\Xh a 9=some (LD o))/\
   e.length=n/\WG e/\o<=1/\val e+o*4294967296^n=val ys+V%4294967296^n
 |_,_,0,_,_,_,_,h,_,_,_,_,_,_=>by omega
 |0,i,k+1,H,b,c,hi',_,hu,hv,h1,h2,h3,h4=>by
  obtain rfl:i=n:=by omega
  rw[YL (by omega),ZF]at hu;rw[Zd (by omega)]at h4;have :∃a,Xb E K 0 [0,1,5,7,9,135,136] x192_3 (k+1) ⟨[(0,.one (.own iu 0 j (i+1))),(1,.one (.own iv 0 0 i)),(5,LB i),(7,LD q),(9,LD c),(135,LB i),(136,LB i)],H⟩=some (.exit 4,⟨a,H⟩)/\
    (Xh a 0=some (.one (.own iu 0 j (i+1)))/\Xh a 5=some (LB i)/\Xh a 7=some (LD q)/\Xh a 9=some (LD c)):=by
   apply VO
   ·obtain⟨L,lK,oD,oS,oR,N,M,e1,e2,O,P,Q,S,T,A,R⟩:=SH;rw[<-e2,A];simp only[TD,R,Xr,reduceIte,Nat.reduceEqDiff,x192_3,Zv];rfl
   ·simp only[Xo,reduceIte,Nat.reduceEqDiff,and_self]
  obtain⟨a,m,z⟩:=this;exact⟨a,b,c,by rw[Qc hu];exact m,z,h1,h2,h3,h4⟩
 |d+1,i,k+1,H,b,c,hi',hk,hu,hv,h1,h2,h3,h4=>by
  have l:i<n:=by omega
  have w:=D i l;obtain⟨f,y⟩:∃f,f=V / 4294967296^i%4294967296:=⟨_,rfl⟩;have a0:f<4294967296:=by omega
  obtain⟨g,y1,y2,y3⟩:=AT (ws:=ys) l x;have a4:=r.get y1;rw[y2,ZU]at hu;rw[<-y]at w;have v:(low++b).length=j+i:=by grind
  obtain⟨t,U⟩:∃t,t=g+f+c:=⟨_,rfl⟩;have W:f%18446744073709551616=f:=Zh (by omega);have X:g%18446744073709551616=g:=Zh (by omega);have Y:(g+f)%18446744073709551616=g+f:=Zh (by omega);have Z:(g+f+c)%18446744073709551616=g+f+c:=Zh (by omega);have f6:Xe .i64 (.ofNat (i+1))=.ofNat (i+1):=wrap_i64 (by omega);have C:t%4294967296+4294967296*(t / 4294967296)=g+f+c:=by omega
  have B:t / 4294967296<=1:=by omega
  have F:=xX h4 C;obtain⟨a,e,o,m,z,g3,g4,g5,g6⟩:=qS u s hn x r D d (i+1) k (H.set iu ⟨false,0,1,Wl (low++(b++[t%4294967296])++(ys.drop (i+1)++hi)),false,tu⟩) (b++[t%4294967296]) (t / 4294967296) (by omega) (by omega)
   (PI hu) (de u hv) (by simp[h1]) (h2.snoc (by omega)) B (by grind [aS,Qh])
  rw[List.set_set]at m;refine⟨a,e,o,?_,z,g3,g4,g5,g6⟩;rw[<-Zq low b [t%4294967296],<-NC (low++b) _ g (t%4294967296) v]at m;have G:=X7 w;have I:=X7 (ND (low++b) (ys.drop (i+1)++hi) g v);have J:i<n+1:=by omega
  obtain⟨L,lK,oD,oS,oR,N,M,e1,e2,O,P,Q,S,T,A,R⟩:=SH;rw[<-e2]at m⊢;rw[A];subst U;simp only[TD,R,Xr,reduceIte,Nat.reduceEqDiff,Nat.reduceLeDiff,Nat.reduceAdd,Zw,x192_3,hu,hv,G,I,J,l,W,X,Y,Z,f6,WQ];exact m
end
end Go.Proofs.YtidginchkjhobaaGreat
