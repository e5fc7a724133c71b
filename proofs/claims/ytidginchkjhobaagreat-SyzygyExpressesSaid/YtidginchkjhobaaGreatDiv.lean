/- Package integer: division by one word, shifts. -/
import Derived.Test.YtidginchkjhobaaGreatInt
set_option maxHeartbeats 16000000
set_option maxRecDepth 100000
namespace Go.Ev
open Go.Proofs.YtidginchkjhobaaGreat
theorem NT {a:Type}(z x:a):∀(i:Nat) (l:List a),(List.replicate (i+1) z++l).set i x=List.replicate i z++x::l
 |0,l=>rfl
 |i+1,l=>by
  rw[List.replicate_succ,ZD,YK,NT z x i l];rfl
theorem gZ {a:Type}(z:a)(i:Nat)(l:List a):(List.replicate (i+1) z++l)[i]? =some z:=by grind
theorem uN {a X d}(b:0<d):(a+4294967296*X) / d=(X%d*4294967296+a) / d+4294967296*(X / d)/\(a+4294967296*X)%d=(X%d*4294967296+a)%d:=by
 have h:=Yo X d;have e:a+4294967296*X=(X%d*4294967296+a)+d*(4294967296*(X / d)):=by
  grind
 simp_all [Nat.add_mul_div_left]
theorem uP {r a d}(c:r<d)(b:a<4294967296):(r*4294967296+a) / d<4294967296:=by
 apply Yc;omega
theorem ox {q Y}(h:q<4294967296):(q+4294967296*Y)%4294967296=q/\(q+4294967296*Y) / 4294967296=Y:=by omega
theorem jc {a}(h:a<4294967296):bD .u64 (.ofNat a) (.ofNat 32)=some (.p (La2 (a*4294967296))):=by
 show some (DL.p (.int .u64 (Xd .u64 (.ofNat (a*2^(Nat.min 32 64))))))=_;rw[wrap_u64];congr 3;show Int.ofNat (a*4294967296%18446744073709551616)=_
 grind
theorem wz {a w}(d:a<4294967296)(c:w<4294967296):U6 .u64 (Nat.lor (W4 .u64 (.ofNat (a*4294967296))) (W4 .u64 (.ofNat w)))=.ofNat (a*4294967296+w):=by
 have e1:W4 .u64 (.ofNat (a*4294967296))=2^32*a:=by show a*4294967296%18446744073709551616=_;omega
 have e2:W4 .u64 (.ofNat w)=w:=by show w%18446744073709551616=_;omega
 have b:Nat.lor (2^32*a) w=2^32*a+w:=(Nat.two_pow_add_eq_or_of_lt (by simpa using c) a).symm;rw[e1,e2,b];show Int.ofNat (2^32*a+w)=_;congr 1;omega
theorem cy (n):pI (n+1)=.ofNat n:=rfl
theorem gR:pI 0=.negSucc 0:=rfl
theorem ow {E:Xa}{K:Nat}{q:PL}{a:P'}(s:UB q a)(o:WR a)(F:a.length<10000000000000){d:Nat}(c:0<d)(D:d<4294967296)(t:Nat):∀(i:Nat),i<=a.length->∀(k:Nat),i<k->
  ∃e,Xb E K 0 [0,1,6,7,8] x189_1 k ⟨[(0,La4 q),(1,La3 d),(6,.one (.own 0 0 0 a.length)),(7,La3 (val (a.drop i)%d)),(8,La4 (.int .i64 (pI i)))],[⟨false,0,1,Wn (List.replicate i 0++dg (a.length-i) (val (a.drop i) / d)),false,t⟩]⟩=
   some (.exit 0,⟨e,[⟨false,0,1,Wn (dg a.length (val a / d)),false,t⟩]⟩)/\Xi e 6=some (.one (.own 0 0 0 a.length))/\Xi e 7=some (La3 (val a%d))
 |_,_,0,h=>by omega
 |0,_,k+1,_=>by
  apply VW
  ·rw[Xb];simp only[Xo,Xs,reduceIte,Nat.reduceEqDiff,x189_1,gR,Nat.sub_zero];rfl
  ·simp only[Xo,reduceIte,Nat.reduceEqDiff,and_self]
 |i+1,hi,k+1,hk=>by
  obtain⟨e,j,C⟩:=ow (E:=E) (K:=K) s o F c D t i (by omega) k (by omega);refine⟨e,?_,C⟩;obtain⟨w,n⟩:∃w,a[i]? =some w:=⟨_,Zd (by omega)⟩;have g:=o.get n;have J:i<a.length:=by omega
  have I:=ZN (val (a.drop (i+1))) c;obtain⟨u,v⟩:=uN (a:=w) (X:=val (a.drop (i+1))) c;have H:=uP I g;obtain⟨m,G⟩:∃m,a.length-i=m+1:=⟨a.length-i-1,by omega⟩;have l:a.length-(i+1)=m:=by omega
  rw[OQ n,u,v,G,dg]at j;rw[l];generalize val (a.drop (i+1))=X at *;obtain⟨e1,e2⟩:=ox (Y:=X / d) H;rw[e1,e2]at j;obtain⟨b,rfl⟩:∃b,d=b+1:=⟨d-1,by omega⟩;generalize M:X%(b+1)=r at *;have f:r<4294967296:=by omega
  have x:w%18446744073709551616=w:=Zi (by omega);have L:(r*4294967296+w) / (b+1)%18446744073709551616%4294967296=(r*4294967296+w) / (b+1):=by omega
  have y:(r*4294967296+w) / (b+1)%18446744073709551616=(r*4294967296+w) / (b+1):=by omega
  have z:(r*4294967296+w) / (b+1)%4294967296=(r*4294967296+w) / (b+1):=by omega
  have A:Xd .i64 (.ofNat i-.ofNat 1)=pI i:=UR (by omega);have B:=X7 (gZ 0 i (dg m (X / (b+1))));rw[Xb];simp only[Xo,Xs,reduceIte,Nat.reduceEqDiff,Nat.reduceLeDiff,Zw,x189_1,cy,s.idx n,jc f,x,wz f g,y,z,A,B,J,W3,NT];exact j
theorem Fp {a}(h:WR a){d}:val (dg a.length (val a / d))=val a / d:=o0 (Z2 (Nat.div_le_self ..) (Vd h))
theorem Fm {B}(c:Std B){h}{a}(i:UB h a)(f:WR a)(p:a.length<10000000000000){d}(e:0<d)(o:d<4294967296):
  Xv B 189 [.one h,.one (La2 d)] (.Wd [.one (.Xl (UI (Xe (val a / d)))),.one (La2 (val a%d))]):=by
 have g:=Rz c (ws:=dg a.length (val a / d)) (by rw[Wh];omega);rw[Te (lh _ _) (Fp f)]at g;refine Xv.of (c.Wa _ _ rfl) (((XT.ge (a.length+1)).and (g.Xk.and c.Xk)).mono fun E K ⟨u,e1,q⟩=> ?_);obtain⟨t,b,m,n⟩:=ow (E:=E) (K:=K) i f p e o 177 a.length (Zf _) K (by omega);rw[List.drop_length,Nat.sub_self]at b;have r:val []%d=0:=Nat.zero_mod d;have s:∀v,List.replicate a.length 0++dg 0 v=List.replicate a.length 0:=fun v=>ZJ _
 rw[r,s]at b;have j:4*a.length<=lim:=by unfold lim;omega
 have k:a.length<=9223372036854775807:=by omega
 have l:Xd .i64 (.ofNat a.length-.ofNat 1)=pI a.length:=UR (by omega);simp only[Xo,Xs,reduceIte,Nat.reduceEqDiff,Nat.reduceLeDiff,Nat.reduceAdd,x189,i.len,j,k,l,Zf,Ty,b,m,n,Sp _ (Yv (Wh a.length (val a / d))),VE,Wh,Uv,UK,q,X3,e1]
theorem MI {t s}(a:s<32):Pc .u64 (.ofNat t) (.ofNat s)=some (.p (La2 (t / 2^s))):=by
 show some (DL.p (La2 (t / 2^(Nat.min s 64))))=_
 grind
theorem aW {s}(a:s<32):2^s<4294967296:=by
 have :(2:Nat)^s<2^32:=Nat.pow_lt_pow_right (by decide) a;simpa using this
theorem I6 {w s}(b:w<4294967296)(a:s<32):bD .u64 (.ofNat w) (.ofNat s)=some (.p (La2 (w*2^s))):=by
 show some (DL.p (.int .u64 (Xd .u64 (.ofNat (w*2^(Nat.min s 64))))))=_;rw[show Nat.min s 64=s from Nat.min_eq_left (by omega),wrap_u64];have:=Nat.mul_lt_mul'' b (aW a)
 grind
theorem Lw {s}(a:s<32):Xd .u64 (.ofNat (1*2^s)-.ofNat 1)=.ofNat (2^s-1):=by
 have b:0<2^s:=Yr (by decide);have c:=aW a
 grind [wrap_u64]
theorem M5 {t s}(c:t<18446744073709551616)(a:s<32):U6 .u64 (Nat.land (W4 .u64 (.ofNat t)) (W4 .u64 (.ofNat (2^s-1))))=.ofNat (t%2^s):=by
 have b:=aW a;have e1:W4 .u64 (.ofNat t)=t:=by show t%18446744073709551616=_;omega
 have e2:W4 .u64 (.ofNat (2^s-1))=2^s-1:=by show(2^s-1)%18446744073709551616=_;omega
 rw[e1,e2];show Int.ofNat (t&&&(2^s-1))=_
 simp_all
theorem sD {E:Xa}{K:Nat}{q:PL}{a:P'}(u:UB q a)(n:WR a)(G:a.length<10000000000000){s:Nat}(b:s<32)(t:Nat):∀(i:Nat),i<=a.length->∀(k:Nat),i<k->
  ∃f,Xb E K 0 [0,1,5,6,7] x193_1 k ⟨[(0,La4 q),(1,La1 s),(5,.one (.own 0 0 0 a.length)),(6,La3 (val (a.drop i)%2^s)),(7,La4 (.int .i64 (pI i)))],[⟨false,0,1,Wn (List.replicate i 0++dg (a.length-i) (val (a.drop i) / 2^s)),false,t⟩]⟩=
   some (.exit 0,⟨f,[⟨false,0,1,Wn (dg a.length (val a / 2^s)),false,t⟩]⟩)/\Xi f 5=some (.one (.own 0 0 0 a.length))
 |_,_,0,h=>by omega
 |0,_,k+1,_=>by
  apply VW
  ·rw[Xb];simp only[Xo,Xs,reduceIte,Nat.reduceEqDiff,x193_1,gR,Nat.sub_zero];rfl
  ·simp only[Xo,reduceIte,Nat.reduceEqDiff]
 |i+1,hi,k+1,hk=>by
  obtain⟨f,g,F⟩:=sD (E:=E) (K:=K) u n G b t i (by omega) k (by omega);refine⟨f,?_,F⟩;obtain⟨w,l⟩:∃w,a[i]? =some w:=⟨_,Zd (by omega)⟩;have e:=n.get l;have J:i<a.length:=by omega
  have c:0<2^s:=Yr (by decide);have M:=aW b;have I:=ZN (val (a.drop (i+1))) c;obtain⟨v,x⟩:=uN (a:=w) (X:=val (a.drop (i+1))) c;have o:=uP I e;obtain⟨m,H⟩:∃m,a.length-i=m+1:=⟨a.length-i-1,by omega⟩;have j:a.length-(i+1)=m:=by omega
  rw[OQ l,v,x,H,dg]at g;rw[j];generalize val (a.drop (i+1))=X at *;obtain⟨e1,e2⟩:=ox (Y:=X / 2^s) o;rw[e1,e2]at g;generalize L:X%2^s=r at *;have d:r<4294967296:=by omega
  have y:w%18446744073709551616=w:=Zi (by omega);have z:(r*4294967296+w) / 2^s%4294967296=(r*4294967296+w) / 2^s:=Zi o;have A:Xd .i64 (.ofNat i-.ofNat 1)=pI i:=UR (by omega);have B:=X7 (gZ 0 i (dg m (X / 2^s)));have C:=M5 (t:=r*4294967296+w) (s:=s) (by omega) b;have D:=I6 (w:=1) (s:=s) (by decide) b;rw[Xb];simp only[Xo,Xs,reduceIte,Nat.reduceEqDiff,Nat.reduceLeDiff,Zw,x193_1,cy,u.idx l,jc d,y,wz d e,z,A,B,C,D,Lw b,MI b,J,W3,NT];exact g
theorem Gv {B}(c:Std B){la}{a}(f:UB la a)(d:WR a)(k:a.length<10000000000000){s}(m:s<32):
  Xv B 193 [.one la,.one (La0 s)] (.one (.Xl (UI (Xe (val a / 2^s))))):=by
 have e:=Rz c (ws:=dg a.length (val a / 2^s)) (by rw[Wh];omega);rw[Te (lh _ _) (Fp d)]at e;refine Xv.of (c.Wa _ _ rfl) (((XT.ge (a.length+1)).and (e.Xk.and c.Xk)).mono fun E K ⟨q,e1,l⟩=> ?_);obtain⟨p,b,j⟩:=sD (E:=E) (K:=K) f d k m 177 a.length (Zf _) K (by omega);rw[List.drop_length,Nat.sub_self]at b;have n:val []%2^s=0:=Nat.zero_mod _;have o:∀v,List.replicate a.length 0++dg 0 v=List.replicate a.length 0:=fun v=>ZJ _
 rw[n,o]at b;have g:4*a.length<=lim:=by unfold lim;omega
 have h:a.length<=9223372036854775807:=by omega
 have i:Xd .i64 (.ofNat a.length-.ofNat 1)=pI a.length:=UR (by omega);simp only[Xo,Xs,reduceIte,Nat.reduceEqDiff,Nat.reduceLeDiff,Nat.reduceAdd,x193,f.len,g,h,i,Zf,Ty,b,j,Sp _ (Yv (Wh a.length (val a / 2^s))),VE,Wh,Uv,UK,l,X3,e1]
theorem qJ (i v):dg (i+1) v=dg i v++[v / 4294967296^i%4294967296]:=by rw[Rm];rfl
theorem zD {n u v}(h:u%4294967296^n=v%4294967296^n):dg n u=dg n v:=by rw[<-xH n u,h,xH]
theorem C6 {X w p c}(a:0<p):(X+w*p)*c / p=w*c+X*c / p/\(X+w*p)*c%p=X*c%p:=by grind [ZX,ZT,Yn,Nat.add_mul_div_left,Nat.add_mul_mod_self_left]
theorem orN {c w s}(f:w<4294967296)(d:c<2^s)(e:s<32):U6 .u64 (Nat.lor (W4 .u64 (.ofNat (w*2^s))) (W4 .u64 (.ofNat c)))=.ofNat (w*2^s+c):=by
 have b:=aW e;have g:=Nat.mul_lt_mul'' f b;have e1:W4 .u64 (.ofNat (w*2^s))=2^s*w:=by show w*2^s%18446744073709551616=_;grind
 have e2:W4 .u64 (.ofNat c)=c:=by show c%18446744073709551616=_;omega
 have a:Nat.lor (2^s*w) c=2^s*w+c:=(Nat.two_pow_add_eq_or_of_lt d w).symm;rw[e1,e2,a,ZT];rfl
def M8 (T:List (Nat×DV))(la:PL)(s n N i c:Nat):Prop:=
 Xi T 0=some (La4 la)/\Xi T 1=some (La1 s)/\Xi T 5=some (.one (.own N 0 0 (n+1)))/\Xi T 6=some (La3 c)/\Xi T 14=some (La1 n)/\Xi T 15=some (La1 i)
theorem sE {E}{K}{q}{a}(z:UB q a)(l:WR a)(M:a.length<10000000000000){s}(j:s<32)(t)(H):∀d i,i+d=a.length->∀k,d<k->∀T,M8 T q s a.length H.length i (val (a.take i)*2^s / 4294967296^i)->
  ∃g,Xb E K 0 [0,1,5,6,14,15] x191_1 k ⟨T,H++[⟨false,0,1,Wn (dg i (val (a.take i)*2^s)++List.replicate (d+1) 0),false,t⟩]⟩=
   some (.exit 0,⟨g,H++[⟨false,0,1,Wn (dg a.length (val a*2^s)++[0]),false,t⟩]⟩)/\Xi g 0=some (La4 q)/\Xi g 5=some (.one (.own H.length 0 0 (a.length+1)))/\Xi g 6=some (La3 (val a*2^s / 4294967296^a.length))
 |_,_,_,0,h=>by omega
 |0,i,hi,k+1,_=>by
  obtain rfl:i=a.length:=by omega
  intro T ⟨r,A,u,v,b,e⟩;apply VW
  ·rw[Xb];simp only[Xo,Xs,reduceIte,x191_1,Zx,Yg,b,e];rfl
  ·simp only[Xo,reduceIte,Nat.reduceEqDiff,r,u,v,and_self,Yg]
 |d+1,i,hi,k+1,hk=>by
  intro T ⟨r,A,u,v,b,e⟩;have y:=sE (E:=E) (K:=K) z l M j t H d (i+1) (by omega) k (by omega);obtain⟨w,m⟩:∃w,a[i]? =some w:=⟨_,Zd (by omega)⟩;have f:=l.get m;have n:i<a.length:=by omega
  have o:i<a.length+1:=by omega
  have N:0<4294967296^i:=Yr (by decide);obtain⟨e1,e2⟩:=C6 (X:=val (a.take i)) (w:=w) (c:=2^s) N;have J:val (a.take i)<4294967296^i:=by
   have:=Vd (ws:=a.take i) (fun x n=>l x (List.mem_of_mem_take n))
   grind
  have L:val (a.take i)*2^s / 4294967296^i<2^s:=Yc (Yl J (Yr (by decide)));have P:=aW j;rw[VQ m,qJ,zD e2,ZI,<-YG,e1]at y;generalize val (a.take i)*2^s / 4294967296^i=c at *;have O:=Wh i (val (a.take i)*2^s);generalize dg i (val (a.take i)*2^s)=D at *;have B:w%18446744073709551616=w:=Zi (by omega);have C:Xd .i64 (.ofNat (i+1))=.ofNat (i+1):=wrap_i64 (by omega);have F:(D++List.replicate (d+1+1) 0)[i]? =some 0:=by grind
  have G:=X7 F;have I:∀x,(D++List.replicate (d+1+1) 0).set i x=D++[x]++List.replicate (d+1) 0:=fun x=>by grind
  rw[Xb];simp only[Xo,rq,Xs,reduceIte,Nat.reduceEqDiff,Nat.reduceLeDiff,Zw,x191_1,r,A,u,v,b,e,n,o,z.idx m,B,I6 f j,orN f L j,C,G,I,W3];exact y _ ⟨rfl,rfl,rfl,rfl,rfl,rfl⟩
theorem yq {B}(f:Std B){b}{a}(h:UB b a)(d:WR a)(w:a.length<10000000000000){s}(g:s<32)(H):
  Uu B 191 [La4 b,La1 s] H (.one (.own H.length 0 0 (a.length+1))) (H++[⟨false,0,1,Wn (dg (a.length+1) (val a*2^s)),false,177⟩]):=by
 refine Uu.of (f.Wa _ _ rfl) (((XT.ge (a.length+1)).and f.Xk).mono fun E K ⟨F,J⟩=> ?_);have z:val (a.take 0)*2^s / 4294967296^0=0:=by simp[val]
 obtain⟨C,e,r,t,u⟩:=sE (E:=E) (K:=K) h d w g 177 H a.length 0 (by omega) K (by omega) [(0,La4 b),(1,La1 s),(5,.one (.own H.length 0 0 (a.length+1))),(6,La3 0),(14,La1 a.length),(15,La1 0)] ⟨rfl,rfl,rfl,by rw[z];rfl,rfl,rfl⟩;have A:∀v,dg 0 v++List.replicate (a.length+1) 0=List.replicate (a.length+1) 0:=fun v=>ZB _
 rw[A]at e;have I:=aW g;have y:=Vd d;have G:val a*2^s / 4294967296^a.length<2^s:=Yc (Yl y (Yr (by decide)));rw[qJ];generalize val a*2^s / 4294967296^a.length=c at *;have i:=Wh a.length (val a*2^s);generalize dg a.length (val a*2^s)=D at *;have m:(D++[0])[a.length]? =some 0:=by grind
 have n:=X7 m;have o:∀x,(D++[0]).set a.length x=D++[x]:=fun x=>by rw[<-i];simp
 have j:4*(a.length+1)<=lim:=by unfold lim;omega
 have k:a.length+1<=9223372036854775807:=by omega
 have l:Xd .i64 (.ofNat (a.length+1))=.ofNat (a.length+1):=wrap_i64 (by omega);have q:a.length<a.length+1:=by omega
 simp only[Xo,Vv,rq,Xs,reduceIte,Nat.reduceEqDiff,Nat.reduceLeDiff,Nat.reduceAdd,Zw,x191,h.len,j,k,l,n,o,q,Zf,Ty,W3,e,r,t,u]
theorem bp {q r v1 v2 a u2}(h:q*v1+r=a)(b:q*v2<=r*4294967296+u2):q*(v1*4294967296+v2)<=a*4294967296+u2:=by grind
theorem kz {q r v1 v2 a u2}(h:q*v1+r=a)(b:r*4294967296+u2<q*v2):a*4294967296+u2<q*(v1*4294967296+v2):=by grind
theorem QW {q r v1 v2 a u2}(h:q*v1+r=a)(d:4294967296<=r)(c:v2<4294967296)(e:a<v1*4294967296+4294967296):q<4294967296/\q*(v1*4294967296+v2)<=a*4294967296+u2:=by
 have b:q<4294967296:=by
  rcases Z8 q 4294967296 with h1|h1
  ·exact h1
  ·have:=Zm v1 h1;omega
 refine⟨b,bp h ?_⟩;have:=ZA (Nat.le_sub_one_of_lt b) (Nat.le_sub_one_of_lt c);omega
def vt (v1 v2 top u2 q:Nat):Prop:=q<4294967296/\q*(v1*4294967296+v2)<=top*4294967296+u2/\(4294967295<=q\/top*4294967296+u2<(q+1)*(v1*4294967296+v2))
section
variable {E:Xa}{K:Nat}{H:V'}{iu iv j m tu tv k:Nat}{U V:P'}{v1 v2 u2 p q r:Nat}
theorem EI (L:H[iu]? =some ⟨false,0,1,Wn U,false,tu⟩)(n:H[iv]? =some ⟨false,0,1,Wn V,false,tv⟩)(G:m<10000000000000)(d:V[m+1]? =some v1)(e:V[m]? =some v2)(f:U[j+m]? =some u2)(q:v1<4294967296)(s:v2<4294967296)(t:u2<4294967296)(J:r<4294967296)(I:p<=4294967298)(l:4294967296<=p+1)(i:¬4294967296<=r+v1):Xb E K 0 [0,1,5,7,8] x192_1 (k+1) ⟨[(0,.one (.own iu 0 j (m+3))),(1,.one (.own iv 0 0 (m+2))),(5,La1 (m+2)),(7,La3 (p+1)),(8,La3 r)],H⟩=Xb E K 0 [0,1,5,7,8] x192_1 k ⟨[(0,.one (.own iu 0 j (m+3))),(1,.one (.own iv 0 0 (m+2))),(5,La1 (m+2)),(7,La3 p),(8,La3 (r+v1))],H⟩:=by
 have T:Xd .i64 (.ofNat (m+2)-.ofNat 2)=.ofNat m:=by rw[X9 (by omega) (by omega)];rfl
 have o:Xd .i64 (.ofNat (m+2)-.ofNat 1)=.ofNat (m+1):=by rw[X9 (by omega) (by omega)];rfl
 have w1:=X7 d;have W:=X7 e;have X:=X7 f;have N:m<m+2:=by omega
 have m2:m+1<m+2:=by omega
 have O:m<m+3:=by omega
 have a:v1%18446744073709551616=v1:=Zi (by omega);have x:v2%18446744073709551616=v2:=Zi (by omega);have y:u2%18446744073709551616=u2:=Zi (by omega);have c:(r+v1)%18446744073709551616=r+v1:=Zi (by omega);have b:Xd .u64 (.ofNat (p+1)-.ofNat 1)=.ofNat p:=by grind [wrap_u64]
 obtain⟨u,M,P,S,Q,w,v,z,g,A,B,C,D,F,h,R⟩:=SZ;rw[<-g,h];simp only[TP,R,Xs,reduceIte,Nat.reduceEqDiff,Nat.reduceAdd,Zw,x192_1,n,o,w1,m2,a,b,c,l,i]
theorem BD (M:H[iu]? =some ⟨false,0,1,Wn U,false,tu⟩)(o:H[iv]? =some ⟨false,0,1,Wn V,false,tv⟩)(I:m<10000000000000)(e:V[m+1]? =some v1)(f:V[m]? =some v2)(g:U[j+m]? =some u2)(s:v1<4294967296)(t:v2<4294967296)(u:u2<4294967296)(L:r<4294967296)(J:p<=4294967298)(n:4294967296<=p+1)(l:4294967296<=r+v1):∃a,Xb E K 0 [0,1,5,7,8] x192_1 (k+1) ⟨[(0,.one (.own iu 0 j (m+3))),(1,.one (.own iv 0 0 (m+2))),(5,La1 (m+2)),(7,La3 (p+1)),(8,La3 r)],H⟩=some (.exit 0,⟨a,H⟩)/\Xi a 0=some (.one (.own iu 0 j (m+3)))/\Xi a 1=some (.one (.own iv 0 0 (m+2)))/\Xi a 5=some (La1 (m+2))/\Xi a 7=some (La3 p):=by
 have W:Xd .i64 (.ofNat (m+2)-.ofNat 2)=.ofNat m:=by rw[X9 (by omega) (by omega)];rfl
 have q:Xd .i64 (.ofNat (m+2)-.ofNat 1)=.ofNat (m+1):=by rw[X9 (by omega) (by omega)];rfl
 have w1:=X7 e;have X:=X7 f;have Y:=X7 g;have O:m<m+2:=by omega
 have m2:m+1<m+2:=by omega
 have P:m<m+3:=by omega
 have b:v1%18446744073709551616=v1:=Zi (by omega);have y:v2%18446744073709551616=v2:=Zi (by omega);have z:u2%18446744073709551616=u2:=Zi (by omega);have d:(r+v1)%18446744073709551616=r+v1:=Zi (by omega);have c:Xd .u64 (.ofNat (p+1)-.ofNat 1)=.ofNat p:=by grind [wrap_u64]
 apply VW
 ·obtain⟨v,N,Q,T,S,x,w,A,h,B,C,D,F,G,i,R⟩:=SZ;rw[<-h,i];simp only[TP,R,Xs,reduceIte,Nat.reduceEqDiff,Nat.reduceAdd,Zw,x192_1,o,q,w1,m2,b,c,d,n,l];rfl
 ·simp only[Xo,reduceIte,Nat.reduceEqDiff,and_self]
theorem EH (y:H[iu]? =some ⟨false,0,1,Wn U,false,tu⟩)(A:H[iv]? =some ⟨false,0,1,Wn V,false,tv⟩)(X:m<10000000000000)(l:V[m+1]? =some v1)(n:V[m]? =some v2)(o:U[j+m]? =some u2)(J:v1<4294967296)(b:v2<4294967296)(c:u2<4294967296)(a:r<4294967296)(v:¬4294967296<=p+1)(w:r*4294967296+u2<(p+1)*v2)(t:¬4294967296<=r+v1):Xb E K 0 [0,1,5,7,8] x192_1 (k+1) ⟨[(0,.one (.own iu 0 j (m+3))),(1,.one (.own iv 0 0 (m+2))),(5,La1 (m+2)),(7,La3 (p+1)),(8,La3 r)],H⟩=Xb E K 0 [0,1,5,7,8] x192_1 k ⟨[(0,.one (.own iu 0 j (m+3))),(1,.one (.own iv 0 0 (m+2))),(5,La1 (m+2)),(7,La3 p),(8,La3 (r+v1))],H⟩:=by
 have F:Xd .i64 (.ofNat (m+2)-.ofNat 2)=.ofNat m:=by rw[X9 (by omega) (by omega)];rfl
 have D:Xd .i64 (.ofNat (m+2)-.ofNat 1)=.ofNat (m+1):=by rw[X9 (by omega) (by omega)];rfl
 have w1:=X7 l;have G:=X7 n;have I:=X7 o;have B:m<m+2:=by omega
 have m2:m+1<m+2:=by omega
 have C:m<m+3:=by omega
 have d:v1%18446744073709551616=v1:=Zi (by omega);have e:v2%18446744073709551616=v2:=Zi (by omega);have f:u2%18446744073709551616=u2:=Zi (by omega);have h:(r+v1)%18446744073709551616=r+v1:=Zi (by omega);have g:Xd .u64 (.ofNat (p+1)-.ofNat 1)=.ofNat p:=by grind [wrap_u64]
 have i:(p+1)*v2%18446744073709551616=(p+1)*v2:=by
  have:=RG (x:=p+1) (by omega) b (z:=0) (u:=0) (by omega) (by omega);omega
 obtain⟨L,Y,Z,oS,oR,N,M,O,q,P,Q,S,T,W,s,R⟩:=SZ;rw[<-q,s];simp only[TP,R,Xs,reduceIte,Nat.reduceEqDiff,Nat.reduceAdd,Zw,x192_1,y,A,D,F,w1,G,I,B,m2,C,d,e,f,g,h,i,v,jc a,wz a c,w,t]
theorem BC (A:H[iu]? =some ⟨false,0,1,Wn U,false,tu⟩)(B:H[iv]? =some ⟨false,0,1,Wn V,false,tv⟩)(Y:m<10000000000000)(n:V[m+1]? =some v1)(o:V[m]? =some v2)(q:U[j+m]? =some u2)(L:v1<4294967296)(c:v2<4294967296)(d:u2<4294967296)(b:r<4294967296)(w:¬4294967296<=p+1)(y:r*4294967296+u2<(p+1)*v2)(v:4294967296<=r+v1):∃a,Xb E K 0 [0,1,5,7,8] x192_1 (k+1) ⟨[(0,.one (.own iu 0 j (m+3))),(1,.one (.own iv 0 0 (m+2))),(5,La1 (m+2)),(7,La3 (p+1)),(8,La3 r)],H⟩=some (.exit 0,⟨a,H⟩)/\Xi a 0=some (.one (.own iu 0 j (m+3)))/\Xi a 1=some (.one (.own iv 0 0 (m+2)))/\Xi a 5=some (La1 (m+2))/\Xi a 7=some (La3 p):=by
 have G:Xd .i64 (.ofNat (m+2)-.ofNat 2)=.ofNat m:=by rw[X9 (by omega) (by omega)];rfl
 have F:Xd .i64 (.ofNat (m+2)-.ofNat 1)=.ofNat (m+1):=by rw[X9 (by omega) (by omega)];rfl
 have w1:=X7 n;have I:=X7 o;have J:=X7 q;have C:m<m+2:=by omega
 have m2:m+1<m+2:=by omega
 have D:m<m+3:=by omega
 have e:v1%18446744073709551616=v1:=Zi (by omega);have f:v2%18446744073709551616=v2:=Zi (by omega);have g:u2%18446744073709551616=u2:=Zi (by omega);have i:(r+v1)%18446744073709551616=r+v1:=Zi (by omega);have h:Xd .u64 (.ofNat (p+1)-.ofNat 1)=.ofNat p:=by grind [wrap_u64]
 have l:(p+1)*v2%18446744073709551616=(p+1)*v2:=by
  have:=RG (x:=p+1) (by omega) c (z:=0) (u:=0) (by omega) (by omega);omega
 apply VW
 ·obtain⟨M,Z,oD,oS,oR,O,N,P,s,Q,S,T,W,X,t,R⟩:=SZ;rw[<-s,t];simp only[TP,R,Xs,reduceIte,Nat.reduceEqDiff,Nat.reduceAdd,Zw,x192_1,A,B,F,G,w1,I,J,C,m2,D,e,f,g,h,i,l,w,jc b,wz b d,y,v];rfl
 ·simp only[Xo,reduceIte,Nat.reduceEqDiff,and_self]
theorem Ht (t:H[iu]? =some ⟨false,0,1,Wn U,false,tu⟩)(u:H[iv]? =some ⟨false,0,1,Wn V,false,tv⟩)(P:m<10000000000000)(g:V[m+1]? =some v1)(h:V[m]? =some v2)(i:U[j+m]? =some u2)(A:v1<4294967296)(B:v2<4294967296)(c:u2<4294967296)(b:r<4294967296)(o:¬4294967296<=q)(s:¬r*4294967296+u2<q*v2):∃a,Xb E K 0 [0,1,5,7,8] x192_1 (k+1) ⟨[(0,.one (.own iu 0 j (m+3))),(1,.one (.own iv 0 0 (m+2))),(5,La1 (m+2)),(7,La3 q),(8,La3 r)],H⟩=some (.exit 0,⟨a,H⟩)/\Xi a 0=some (.one (.own iu 0 j (m+3)))/\Xi a 1=some (.one (.own iv 0 0 (m+2)))/\Xi a 5=some (La1 (m+2))/\Xi a 7=some (La3 q):=by
 have x:Xd .i64 (.ofNat (m+2)-.ofNat 2)=.ofNat m:=by rw[X9 (by omega) (by omega)];rfl
 have X:Xd .i64 (.ofNat (m+2)-.ofNat 1)=.ofNat (m+1):=by rw[X9 (by omega) (by omega)];rfl
 have w1:=X7 g;have y:=X7 h;have z:=X7 i;have v:m<m+2:=by omega
 have m2:m+1<m+2:=by omega
 have w:m<m+3:=by omega
 have G:v1%18446744073709551616=v1:=Zi (by omega);have d:v2%18446744073709551616=v2:=Zi (by omega);have e:u2%18446744073709551616=u2:=Zi (by omega);have f:q*v2%18446744073709551616=q*v2:=by
  omega
 apply VW
 ·obtain⟨C,Q,S,W,T,F,D,I,l,J,L,M,N,O,n,R⟩:=SZ;rw[<-l,n];simp only[TP,R,Xs,reduceIte,Nat.reduceEqDiff,Nat.reduceAdd,Zw,x192_1,t,u,x,y,z,v,w,d,e,f,o,jc b,wz b c,s];rfl
 ·simp only[Xo,reduceIte,Nat.reduceEqDiff,and_self]
theorem xg (B:H[iu]? =some ⟨false,0,1,Wn U,false,tu⟩)(C:H[iv]? =some ⟨false,0,1,Wn V,false,tv⟩)(z:m<10000000000000)(v:V[m+1]? =some v1)(w:V[m]? =some v2)(x:U[j+m]? =some u2)(t:v1<4294967296)(g:v2<4294967296)(u:u2<4294967296){b}(G:b<v1*4294967296+4294967296):∀d q r,q*v1+r=b->r<4294967296->q<=4294967298->4294967296<=r+d*v1->(4294967296<=q+1\/b*4294967296+u2<(q+1)*(v1*4294967296+v2))->∀k,d<k->
  ∃a s,Xb E K 0 [0,1,5,7,8] x192_1 k ⟨[(0,.one (.own iu 0 j (m+3))),(1,.one (.own iv 0 0 (m+2))),(5,La1 (m+2)),(7,La3 q),(8,La3 r)],H⟩=some (.exit 0,⟨a,H⟩)/\(Xi a 0=some (.one (.own iu 0 j (m+3)))/\Xi a 1=some (.one (.own iv 0 0 (m+2)))/\Xi a 5=some (La1 (m+2))/\Xi a 7=some (La3 s))/\vt v1 v2 b u2 s:=by
 intro d;induction d with
 |zero=>omega
 |succ d I=>
  intro q r e A O L N k M;rcases k with _|k;omega;by_cases o:4294967296<=q
  ·obtain⟨p,rfl⟩:∃p,q=p+1:=⟨q-1,by omega⟩;have i:p*v1+(r+v1)=b:=by grind
   by_cases l:4294967296<=r+v1
   ·obtain⟨D,F⟩:=QW (u2:=u2) i l g G;obtain⟨a,c,f⟩:=BD (E:=E) (K:=K) (k:=k) B C z v w x t g u A (by omega) o l;exact⟨a,p,c,f,D,F,.inl (by omega)⟩
   ·obtain⟨a,s,c,f⟩:=I p (r+v1) i (by omega) (by omega) (by grind) (.inl o) k (by omega)
    grind [EI]
  ·by_cases y:r*4294967296+u2<q*v2
   ·obtain⟨p,rfl⟩:∃p,q=p+1:=by
     rcases Yk q with h|h
     ·subst h;omega
     simp_all
    have i:p*v1+(r+v1)=b:=by grind
    have n:=kz e y;by_cases l:4294967296<=r+v1
    ·obtain⟨D,F⟩:=QW (u2:=u2) i l g G;obtain⟨a,c,f⟩:=BC (E:=E) (K:=K) (k:=k) B C z v w x t g u A o y l;exact⟨a,p,c,f,D,F,.inr n⟩
    ·obtain⟨a,s,c,f⟩:=I p (r+v1) i (by omega) (by omega) (by grind) (.inr n) k (by omega)
     grind [EH]
   ·obtain⟨a,c,f⟩:=Ht (E:=E) (K:=K) (k:=k) B C z v w x t g u A o y;refine⟨a,q,c,f,by omega,bp e (by omega),?_⟩;omega
end
theorem ab {a:Type}(P R:List a)(x:a){k:Nat}(h:P.length=k):(P++x::R)[k]? =some x:=by subst h;simp
theorem N9 {a:Type}(P R:List a)(x y:a){k:Nat}(h:P.length=k):(P++x::R).set k y=P++[y]++R:=by subst h;simp
theorem NS {a:Type}{H:List a}{i:Nat}{b:a}(h:H[i]? =some b):H.set i b=H:=by grind [List.set_getElem_self]
theorem P8 {a:Type}{H:List a}{i:Nat}{b c:a}(h:H[i]? =some b):(H.set i c)[i]? =some c:=by grind
theorem ea {a:Type}{H:List a}{i j:Nat}{b c:a}(d:i≠j)(h:H[j]? =some b):(H.set i c)[j]? =some b:=by grind
theorem WR.snoc {a}{w}(h:WR a)(c:w<4294967296):WR (a++[w]):=by
 intro x b;rcases ZS.1 b with h1|h1
 ·exact h x h1
 grind
theorem bK (a)(w){i}(h:a.length=i):val (a++[w])=val a+w*4294967296^i:=by simp_all [PZ,val,ZT]
theorem Qu (x i):x%4294967296^(i+1)=x%4294967296^i+4294967296^i*(x / 4294967296^i%4294967296):=Nat.mod_pow_succ
theorem qK (k x i):dg (k+1) (x / 4294967296^i)=x / 4294967296^i%4294967296::dg k (x / 4294967296^(i+1)):=by grind [dg,YG]
theorem qX {low hi}{U j n i}(b:low.length=j)(a:i<n):(low++(dg n U++hi))[j+i]? =some (U / 4294967296^i%4294967296):=by grind [Wh,eU]
theorem yh {Y q d P i a g c b w t f e}(h:Y+q*d=a+(c+b)*P)(k:t=q*i+c)(j:f=t / 4294967296)(l:w+t%4294967296+b=g+4294967296*e):
  (Y+w*P)+q*(d+P*i)=a+P*g+(f+e)*(P*4294967296):=by grind [Yo]
section
variable {E:Xa}{K:Nat}{iu iv j n tu tv:Nat}{low hi Vw:P'}{U V q:Nat}
theorem sh (B:iu≠iv)(A:low.length=j)(hn:n<10000000000000)(Y:q<4294967296)(X:∀i,i<n->Vw[i]? =some (V / 4294967296^i%4294967296)):∀(d i k:Nat) (H:V') (e:P') (c b:Nat),i+d=n->d<k->
  H[iu]? =some ⟨false,0,1,Wn (low++e++(dg (d+1) (U / 4294967296^i)++hi)),false,tu⟩->H[iv]? =some ⟨false,0,1,Wn Vw,false,tv⟩->e.length=i->WR e->c<4294967296->b<=1->val e+q*(V%4294967296^i)=U%4294967296^i+(c+b)*4294967296^i->
  ∃a f v s,Xb E K 0 [0,1,5,7,9,10,82,83] x192_2 k ⟨[(0,.one (.own iu 0 j (n+1))),(1,.one (.own iv 0 0 n)),(5,La1 n),(7,La3 q),(9,La3 c),(10,La3 b),(82,La1 n),(83,La1 i)],H⟩=
   some (.exit 2,⟨a,H.set iu ⟨false,0,1,Wn (low++f++(dg 1 (U / 4294967296^n)++hi)),false,tu⟩⟩)/\
   (Xi a 0=some (.one (.own iu 0 j (n+1)))/\Xi a 1=some (.one (.own iv 0 0 n))/\Xi a 5=some (La1 n)/\Xi a 7=some (La3 q)/\Xi a 9=some (La3 v)/\Xi a 10=some (La3 s))/\
   f.length=n/\WR f/\v<4294967296/\s<=1/\val f+q*(V%4294967296^n)=U%4294967296^n+(v+s)*4294967296^n
 |_,_,0,_,_,_,_,_,h,_,_,_,_,_,_,_=>by omega
 |0,i,k+1,H,e,c,b,hi',_,hu,hv,h1,h2,h3,h4,h5=>by
  obtain rfl:i=n:=by omega
  rw[show(dg (0+1) (U / 4294967296^i))=dg 1 (U / 4294967296^i)from rfl]at hu;have :∃a,Xb E K 0 [0,1,5,7,9,10,82,83] x192_2 (k+1) ⟨[(0,.one (.own iu 0 j (i+1))),(1,.one (.own iv 0 0 i)),(5,La1 i),(7,La3 q),(9,La3 c),(10,La3 b),(82,La1 i),(83,La1 i)],H⟩=some (.exit 2,⟨a,H⟩)/\
    (Xi a 0=some (.one (.own iu 0 j (i+1)))/\Xi a 1=some (.one (.own iv 0 0 i))/\Xi a 5=some (La1 i)/\Xi a 7=some (La3 q)/\Xi a 9=some (La3 c)/\Xi a 10=some (La3 b)):=by
   apply VW
   ·obtain⟨cE,lK,oD,oS,oR,dS,dD,e1,e2,e3,e4,e5,e6,e7,M,R⟩:=SZ;rw[<-e2,M];simp only[TP,R,Xs,reduceIte,Nat.reduceEqDiff,x192_2,Zx];rfl
   ·simp only[Xo,reduceIte,Nat.reduceEqDiff,and_self]
  obtain⟨a,r,L⟩:=this;exact⟨a,e,c,b,by rw[NS hu];exact r,L,h1,h2,h3,h4,h5⟩
 |d+1,i,k+1,H,e,c,b,hi',hk,hu,hv,h1,h2,h3,h4,h5=>by
  have y:i<n:=by omega
  have F:=X i y;obtain⟨m,J⟩:∃m,m=V / 4294967296^i%4294967296:=⟨_,rfl⟩;obtain⟨g,I⟩:∃g,g=U / 4294967296^i%4294967296:=⟨_,rfl⟩;have P:m<4294967296:=by omega
  have a0:g<4294967296:=by omega
  rw[qK,ZD,<-I]at hu;rw[<-J]at F;have D:(low++e).length=j+i:=by grind
  have ht:=RG Y P (z:=0) (u:=c) (by omega) h3;obtain⟨t,G⟩:∃t,t=q*m+c:=⟨_,rfl⟩;have f1:m%18446744073709551616=m:=Zi (by omega);have f2:g%18446744073709551616=g:=Zi (by omega);have f3:q*m%18446744073709551616=q*m:=Zi (by omega);have T:t%18446744073709551616=t:=Zi (by omega);have W:t%4294967296%18446744073709551616=t%4294967296:=Zi (by omega);have f6:Xd .i64 (.ofNat (i+1))=.ofNat (i+1):=wrap_i64 (by omega);obtain⟨x,Z,p1⟩:∃x,Xd .u64 (.ofNat g-.ofNat (t%4294967296))=.ofNat x/\x=(g+(18446744073709551616-t%4294967296))%18446744073709551616:=⟨_,NQ (by omega),rfl⟩;obtain⟨l,k2,p2⟩:∃l,Xd .u64 (.ofNat x-.ofNat b)=.ofNat l/\l=(x+(18446744073709551616-b))%18446744073709551616:=⟨_,NQ (by omega),rfl⟩;have Q:l%4294967296+t%4294967296+b=g+4294967296*(l / 9223372036854775808):=by omega
  have N:l / 9223372036854775808<=1:=by omega
  have O:t / 4294967296<4294967296:=by omega
  have C:=yh h5 G rfl Q;have o:l%4294967296<4294967296:=by omega
  obtain⟨w,S⟩:∃w,w=l%4294967296:=⟨_,rfl⟩;rw[<-S]at C o;obtain⟨a,f,v,s,r,L,g3,g4,g5,g6,g7⟩:=sh B A hn Y X d (i+1) k (H.set iu ⟨false,0,1,Wn (low++(e++[w])++(dg (d+1) (U / 4294967296^(i+1))++hi)),false,tu⟩) (e++[w]) (t / 4294967296) (l / 9223372036854775808) (by omega) (by omega)
   (P8 hu) (ea B hv) (by simp[h1]) (h2.snoc o) O N (by grind [bK,Qu])
  rw[List.set_set]at r;refine⟨a,f,v,s,?_,L,g3,g4,g5,g6,g7⟩;rw[<-Zp low e [w],<-N9 (low++e) _ g w D]at r;have a1:=X7 F;have a2:=X7 (ab (low++e) (dg (d+1) (U / 4294967296^(i+1))++hi) g D);have a3:i<n+1:=by omega
  rw[G]at T W Z;have f7:t=q*m+c:=G;obtain⟨cE,lK,oD,oS,oR,dS,dD,e1,e2,e3,e4,e5,e6,e7,M,R⟩:=SZ;rw[<-e2]at r⊢;rw[M];subst S G;simp only[TP,R,Xs,reduceIte,Nat.reduceEqDiff,Nat.reduceLeDiff,Zw,x192_2,hu,hv,a1,a2,a3,y,f1,f2,f3,T,W,f6,Z,k2,W3];exact r
end
theorem zU {Y a P e b f c w d}(h:Y+c*P=b+a)(g:w+4294967296*d=f+e+c):
  (Y+w*P)+d*(P*4294967296)=(b+f*P)+(a+P*e):=by grind
theorem CK {ws:P'}{n i:Nat}(h:i<n)(b:ws.length=n):∃w,ws[i]? =some w/\ws.drop i=w::ws.drop (i+1)/\val (ws.take (i+1))=val (ws.take i)+w*4294967296^i:=by
 obtain⟨w,a⟩:∃w,ws[i]? =some w:=⟨_,Zd (by omega)⟩;refine⟨w,a,?_,VQ a⟩
 grind [Z0]
section
variable {E:Xa}{K:Nat}{iu iv j n tu tv q:Nat}{low hi Vw ys:P'}{V:Nat}
theorem sT (u:iu≠iv)(s:low.length=j)(hn:n<10000000000000)(x:ys.length=n)(r:WR ys)(D:∀i,i<n->Vw[i]? =some (V / 4294967296^i%4294967296)):∀(d i k:Nat) (H:V') (b:P') (c:Nat),i+d=n->d<k->
  H[iu]? =some ⟨false,0,1,Wn (low++b++(ys.drop i++hi)),false,tu⟩->H[iv]? =some ⟨false,0,1,Wn Vw,false,tv⟩->b.length=i->WR b->c<=1->val b+c*4294967296^i=val (ys.take i)+V%4294967296^i->
  ∃a e o,Xb E K 0 [0,1,5,7,9,135,136] x192_3 k ⟨[(0,.one (.own iu 0 j (n+1))),(1,.one (.own iv 0 0 n)),(5,La1 n),(7,La3 q),(9,La3 c),(135,La1 n),(136,La1 i)],H⟩=
   some (.exit 4,⟨a,H.set iu ⟨false,0,1,Wn (low++e++hi),false,tu⟩⟩)/\
   (Xi a 0=some (.one (.own iu 0 j (n+1)))/\Xi a 5=some (La1 n)/\Xi a 7=some (La3 q)/\Xi a 9=some (La3 o))/\
   e.length=n/\WR e/\o<=1/\val e+o*4294967296^n=val ys+V%4294967296^n
 |_,_,0,_,_,_,_,h,_,_,_,_,_,_=>by omega
 |0,i,k+1,H,b,c,hi',_,hu,hv,h1,h2,h3,h4=>by
  obtain rfl:i=n:=by omega
  rw[YA (by omega),ZB]at hu;rw[Ze (by omega)]at h4;have :∃a,Xb E K 0 [0,1,5,7,9,135,136] x192_3 (k+1) ⟨[(0,.one (.own iu 0 j (i+1))),(1,.one (.own iv 0 0 i)),(5,La1 i),(7,La3 q),(9,La3 c),(135,La1 i),(136,La1 i)],H⟩=some (.exit 4,⟨a,H⟩)/\
    (Xi a 0=some (.one (.own iu 0 j (i+1)))/\Xi a 5=some (La1 i)/\Xi a 7=some (La3 q)/\Xi a 9=some (La3 c)):=by
   apply VW
   ·obtain⟨L,lK,oD,oS,oR,N,M,e1,e2,O,P,Q,S,T,A,R⟩:=SZ;rw[<-e2,A];simp only[TP,R,Xs,reduceIte,Nat.reduceEqDiff,x192_3,Zx];rfl
   ·simp only[Xo,reduceIte,Nat.reduceEqDiff,and_self]
  obtain⟨a,m,z⟩:=this;exact⟨a,b,c,by rw[NS hu];exact m,z,h1,h2,h3,h4⟩
 |d+1,i,k+1,H,b,c,hi',hk,hu,hv,h1,h2,h3,h4=>by
  have l:i<n:=by omega
  have w:=D i l;obtain⟨f,y⟩:∃f,f=V / 4294967296^i%4294967296:=⟨_,rfl⟩;have a0:f<4294967296:=by omega
  obtain⟨g,y1,y2,y3⟩:=CK (ws:=ys) l x;have a4:=r.get y1;rw[y2,ZD]at hu;rw[<-y]at w;have v:(low++b).length=j+i:=by grind
  obtain⟨t,U⟩:∃t,t=g+f+c:=⟨_,rfl⟩;have W:f%18446744073709551616=f:=Zi (by omega);have X:g%18446744073709551616=g:=Zi (by omega);have Y:(g+f)%18446744073709551616=g+f:=Zi (by omega);have Z:(g+f+c)%18446744073709551616=g+f+c:=Zi (by omega);have f6:Xd .i64 (.ofNat (i+1))=.ofNat (i+1):=wrap_i64 (by omega);have C:t%4294967296+4294967296*(t / 4294967296)=g+f+c:=by omega
  have B:t / 4294967296<=1:=by omega
  have F:=zU h4 C;obtain⟨a,e,o,m,z,g3,g4,g5,g6⟩:=sT u s hn x r D d (i+1) k (H.set iu ⟨false,0,1,Wn (low++(b++[t%4294967296])++(ys.drop (i+1)++hi)),false,tu⟩) (b++[t%4294967296]) (t / 4294967296) (by omega) (by omega)
   (P8 hu) (ea u hv) (by simp[h1]) (h2.snoc (by omega)) B (by grind [bK,Qu])
  rw[List.set_set]at m;refine⟨a,e,o,?_,z,g3,g4,g5,g6⟩;rw[<-Zp low b [t%4294967296],<-N9 (low++b) _ g (t%4294967296) v]at m;have G:=X7 w;have I:=X7 (ab (low++b) (ys.drop (i+1)++hi) g v);have J:i<n+1:=by omega
  obtain⟨L,lK,oD,oS,oR,N,M,e1,e2,O,P,Q,S,T,A,R⟩:=SZ;rw[<-e2]at m⊢;rw[A];subst U;simp only[TP,R,Xs,reduceIte,Nat.reduceEqDiff,Nat.reduceLeDiff,Nat.reduceAdd,Zw,x192_3,hu,hv,G,I,J,l,W,X,Y,Z,f6,W3];exact m
end
