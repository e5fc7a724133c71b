/- Package integer: division by one word, shifts. -/
import Derived.Test.YtidginchkjhobaaGreatInt
set_option maxHeartbeats 16000000
set_option maxRecDepth 100000
namespace Go.Num
theorem Ov {a:Type}(z x:a):∀(i:Nat) (l:List a),(List.replicate (i+1) z++l).set i x=List.replicate i z++x::l
 |0,l=>rfl
 |i+1,l=>by
  rw[List.replicate_succ,ZI,Y3,Ov z x i l];rfl
theorem ea {a:Type}(z:a)(i:Nat)(l:List a):(List.replicate (i+1) z++l)[i]? =some z:=by
 rw[ZB (by simp),Yd,if_pos (by omega)]
theorem o5 {a X d:Nat}(b:0<d):(a+4294967296*X) / d=(X%d*4294967296+a) / d+4294967296*(X / d)/\(a+4294967296*X)%d=(X%d*4294967296+a)%d:=by
 have h:=YC X d;have e:a+4294967296*X=(X%d*4294967296+a)+d*(4294967296*(X / d)):=by
  have :4294967296*X=4294967296*(d*(X / d))+4294967296*(X%d):=by rw[<-Nat.mul_add,h]
  have e2:d*(4294967296*(X / d))=4294967296*(d*(X / d)):=by rw[<-Yi,ZH d,Yi]
  rw[e2,this];omega
 rw[e];exact⟨by rw[Nat.add_mul_div_left _ _ b],by rw[Nat.add_mul_mod_self_left]⟩
theorem o6 {r a d:Nat}(b:r<d)(c:a<4294967296):(r*4294967296+a) / d<4294967296:=by
 apply Yp;have:=Zp 4294967296 (Nat.succ_le_of_lt b);rw[Nat.succ_mul]at this;omega
theorem jQ {q Y:Nat}(h:q<4294967296):(q+4294967296*Y)%4294967296=q/\(q+4294967296*Y) / 4294967296=Y:=by omega
end Go.Num
namespace Go.Proofs.YtidginchkjhobaaGreat
open Go.Ev Go.Num
theorem eV {a:Nat}(h:a<4294967296):NB .u64 (.ofNat a) (.ofNat 32)=some (.p (.int .u64 (.ofNat (a*4294967296)))):=by
 show some (DL.p (.int .u64 (Xe .u64 (.ofNat (a*2^(Nat.min 32 64))))))=_;rw[wrap_u64];congr 3;show Int.ofNat (a*4294967296%18446744073709551616)=_;rw[Zg (by omega)]
theorem qZ {a w:Nat}(d:a<4294967296)(c:w<4294967296):UB .u64 (Nat.lor (WK .u64 (.ofNat (a*4294967296))) (WK .u64 (.ofNat w)))=.ofNat (a*4294967296+w):=by
 have e1:WK .u64 (.ofNat (a*4294967296))=2^32*a:=by show a*4294967296%18446744073709551616=_;omega
 have e2:WK .u64 (.ofNat w)=w:=by show w%18446744073709551616=_;omega
 have b:Nat.lor (2^32*a) w=2^32*a+w:=(Nat.two_pow_add_eq_or_of_lt (by simpa using c) a).symm;rw[e1,e2,b];show Int.ofNat (2^32*a+w)=_;congr 1;omega
theorem ah (n:Nat):pI (n+1)=.ofNat n:=rfl
theorem dU:pI 0=.negSucc 0:=rfl
theorem jP {E:Xa}{K:Nat}{q:PL}{a:List Nat}(s:Ui q a)(o:Wz a)(F:a.length<1000000000000){d:Nat}(c:0<d)(D:d<4294967296)(t:Nat):∀(i:Nat),i<=a.length->∀(k:Nat),i<k->
  ∃e,Xb E K 0 [0,1,6,7,8] x189_1 k ⟨[(0,.one (.p q)),(1,.one (.p (.int .u64 (.ofNat d)))),(6,.one (.own 0 0 0 a.length)),(7,.one (.p (.int .u64 (.ofNat (val (a.drop i)%d))))),(8,.one (.p (.int .i64 (pI i))))],[⟨false,0,1,Wi (List.replicate i 0++dg (a.length-i) (val (a.drop i) / d)),false,t⟩]⟩=
   some (.exit 0,⟨e,[⟨false,0,1,Wi (dg a.length (val a / d)),false,t⟩]⟩)/\Xh e 6=some (.one (.own 0 0 0 a.length))/\Xh e 7=some (.one (.p (.int .u64 (.ofNat (val a%d)))))
 |_,_,0,h=>by omega
 |0,_,k+1,_=>by
  apply VE
  ·rw[Xb];simp only[Xm,Xq,reduceIte,Nat.reduceEqDiff,x189_1,dU,Nat.sub_zero];rfl
  ·simp only[Xm,reduceIte,Nat.reduceEqDiff,and_self]
 |i+1,hi,k+1,hk=>by
  obtain⟨e,j,C⟩:=jP (E:=E) (K:=K) s o F c D t i (by omega) k (by omega);refine⟨e,?_,C⟩;obtain⟨w,n⟩:∃w,a[i]? =some w:=⟨_,Zf (by omega)⟩;have g:=o.get n;have J:i<a.length:=by omega
  have I:=ZY (val (a.drop (i+1))) c;obtain⟨u,v⟩:=o5 (a:=w) (X:=val (a.drop (i+1))) c;have H:=o6 I g;obtain⟨m,G⟩:∃m,a.length-i=m+1:=⟨a.length-i-1,by omega⟩;have l:a.length-(i+1)=m:=by omega
  rw[Pz n,u,v,G,dg]at j;rw[l];generalize val (a.drop (i+1))=X at *;obtain⟨e1,e2⟩:=jQ (Y:=X / d) H;rw[e1,e2]at j;obtain⟨b,rfl⟩:∃b,d=b+1:=⟨d-1,by omega⟩;generalize M:X%(b+1)=r at *;have f:r<4294967296:=by omega
  have x:w%18446744073709551616=w:=Zg (by omega);have L:(r*4294967296+w) / (b+1)%18446744073709551616%4294967296=(r*4294967296+w) / (b+1):=by omega
  have y:(r*4294967296+w) / (b+1)%18446744073709551616=(r*4294967296+w) / (b+1):=by omega
  have z:(r*4294967296+w) / (b+1)%4294967296=(r*4294967296+w) / (b+1):=by omega
  have A:Xe .i64 (.ofNat i-.ofNat 1)=pI i:=Uk (by omega);have B:=X2 (ea 0 i (dg m (X / (b+1))));rw[Xb];simp only[Xm,Xq,reduceIte,Nat.reduceEqDiff,Nat.reduceLeDiff,Zt,x189_1,ah,s.idx n,eV f,x,qZ f g,y,z,A,B,J,WH,Ov];exact j
theorem zZ {a:List Nat}(h:Wz a){d:Nat}:val (dg a.length (val a / d))=val a / d:=kr (Z6 (Nat.div_le_self ..) (WW h))
theorem zY {B:Xs}(c:Std B){h:PL}{a:List Nat}(i:Ui h a)(f:Wz a)(p:a.length<1000000000000){d:Nat}(e:0<d)(o:d<4294967296):
  Xx B 189 [.one h,.one (.int .u64 (.ofNat d))] (.XZ [.one (.Xp (Ub (Xd (val a / d)))),.one (.int .u64 (.ofNat (val a%d)))]):=by
 have g:=SJ c (ws:=dg a.length (val a / d)) (by rw[X9];omega);rw[UH (gG _ _) (zZ f)]at g;refine Xx.of (c.Wa _ _ rfl) (((X1.ge (a.length+1)).and (g.Xj.and c.Xj)).mono fun E K ⟨u,e1,q⟩=> ?_);obtain⟨t,b,m,n⟩:=jP (E:=E) (K:=K) i f p e o 177 a.length (Zh _) K (by omega);rw[List.drop_length,YV]at b;have r:val []%d=0:=Nat.zero_mod d;have s:∀v,List.replicate a.length 0++dg 0 v=List.replicate a.length 0:=fun v=>ZS _
 rw[r,s]at b;have j:4*a.length<=lim:=by unfold lim;omega
 have k:a.length<=9223372036854775807:=by omega
 have l:Xe .i64 (.ofNat a.length-.ofNat 1)=pI a.length:=Uk (by omega);simp only[Xm,Xq,reduceIte,Nat.reduceEqDiff,Nat.reduceLeDiff,Nat.reduceAdd,x189,i.len,j,k,l,Zh,U0,b,m,n,U5 _ (Y0 (X9 a.length (val a / d))),Vd,X9,VX,Uf,q,X5,e1]
theorem FH {t s:Nat}(a:s<32):Qb .u64 (.ofNat t) (.ofNat s)=some (.p (.int .u64 (.ofNat (t / 2^s)))):=by
 show some (DL.p (.int .u64 (.ofNat (t / 2^(Nat.min s 64)))))=_;rw[show Nat.min s 64=s from Yt (by omega)]
theorem O9 {s:Nat}(a:s<32):2^s<4294967296:=by
 have :(2:Nat)^s<2^32:=Y5 (by decide) a;simpa using this
theorem CY {w s:Nat}(b:w<4294967296)(a:s<32):NB .u64 (.ofNat w) (.ofNat s)=some (.p (.int .u64 (.ofNat (w*2^s)))):=by
 show some (DL.p (.int .u64 (Xe .u64 (.ofNat (w*2^(Nat.min s 64))))))=_;rw[show Nat.min s 64=s from Yt (by omega),wrap_u64];have:=Nat.mul_lt_mul'' b (O9 a);rw[Zg (by omega)]
theorem ET {s:Nat}(b:s<32):Xe .u64 (.ofNat (1*2^s)-.ofNat 1)=.ofNat (2^s-1):=by
 have a:0<2^s:=YL (by decide);have c:=O9 b;rw[ZZ,TM a,wrap_u64,Zg (by omega)]
theorem FZ {t s:Nat}(c:t<18446744073709551616)(a:s<32):UB .u64 (Nat.land (WK .u64 (.ofNat t)) (WK .u64 (.ofNat (2^s-1))))=.ofNat (t%2^s):=by
 have b:=O9 a;have e1:WK .u64 (.ofNat t)=t:=by show t%18446744073709551616=_;omega
 have e2:WK .u64 (.ofNat (2^s-1))=2^s-1:=by show(2^s-1)%18446744073709551616=_;omega
 rw[e1,e2];show Int.ofNat (t&&&(2^s-1))=_;rw[Nat.and_two_pow_sub_one_eq_mod]
theorem nf {E:Xa}{K:Nat}{q:PL}{a:List Nat}(u:Ui q a)(n:Wz a)(G:a.length<1000000000000){s:Nat}(b:s<32)(t:Nat):∀(i:Nat),i<=a.length->∀(k:Nat),i<k->
  ∃f,Xb E K 0 [0,1,5,6,7] x193_1 k ⟨[(0,.one (.p q)),(1,.one (.p (.int .i64 (.ofNat s)))),(5,.one (.own 0 0 0 a.length)),(6,.one (.p (.int .u64 (.ofNat (val (a.drop i)%2^s))))),(7,.one (.p (.int .i64 (pI i))))],[⟨false,0,1,Wi (List.replicate i 0++dg (a.length-i) (val (a.drop i) / 2^s)),false,t⟩]⟩=
   some (.exit 0,⟨f,[⟨false,0,1,Wi (dg a.length (val a / 2^s)),false,t⟩]⟩)/\Xh f 5=some (.one (.own 0 0 0 a.length))
 |_,_,0,h=>by omega
 |0,_,k+1,_=>by
  apply VE
  ·rw[Xb];simp only[Xm,Xq,reduceIte,Nat.reduceEqDiff,x193_1,dU,Nat.sub_zero];rfl
  ·simp only[Xm,reduceIte,Nat.reduceEqDiff]
 |i+1,hi,k+1,hk=>by
  obtain⟨f,g,F⟩:=nf (E:=E) (K:=K) u n G b t i (by omega) k (by omega);refine⟨f,?_,F⟩;obtain⟨w,l⟩:∃w,a[i]? =some w:=⟨_,Zf (by omega)⟩;have e:=n.get l;have J:i<a.length:=by omega
  have c:0<2^s:=YL (by decide);have M:=O9 b;have I:=ZY (val (a.drop (i+1))) c;obtain⟨v,x⟩:=o5 (a:=w) (X:=val (a.drop (i+1))) c;have o:=o6 I e;obtain⟨m,H⟩:∃m,a.length-i=m+1:=⟨a.length-i-1,by omega⟩;have j:a.length-(i+1)=m:=by omega
  rw[Pz l,v,x,H,dg]at g;rw[j];generalize val (a.drop (i+1))=X at *;obtain⟨e1,e2⟩:=jQ (Y:=X / 2^s) o;rw[e1,e2]at g;generalize L:X%2^s=r at *;have d:r<4294967296:=by omega
  have y:w%18446744073709551616=w:=Zg (by omega);have z:(r*4294967296+w) / 2^s%4294967296=(r*4294967296+w) / 2^s:=Zg o;have A:Xe .i64 (.ofNat i-.ofNat 1)=pI i:=Uk (by omega);have B:=X2 (ea 0 i (dg m (X / 2^s)));have C:=FZ (t:=r*4294967296+w) (s:=s) (by omega) b;have D:=CY (w:=1) (s:=s) (by decide) b;rw[Xb];simp only[Xm,Xq,reduceIte,Nat.reduceEqDiff,Nat.reduceLeDiff,Zt,x193_1,ah,u.idx l,eV d,y,qZ d e,z,A,B,C,D,ET b,FH b,J,WH,Ov];exact g
theorem AV {B:Xs}(c:Std B){la:PL}{a:List Nat}(f:Ui la a)(d:Wz a)(k:a.length<1000000000000){s:Nat}(m:s<32):
  Xx B 193 [.one la,.one (.int .i64 (.ofNat s))] (.one (.Xp (Ub (Xd (val a / 2^s))))):=by
 have e:=SJ c (ws:=dg a.length (val a / 2^s)) (by rw[X9];omega);rw[UH (gG _ _) (zZ d)]at e;refine Xx.of (c.Wa _ _ rfl) (((X1.ge (a.length+1)).and (e.Xj.and c.Xj)).mono fun E K ⟨q,e1,l⟩=> ?_);obtain⟨p,b,j⟩:=nf (E:=E) (K:=K) f d k m 177 a.length (Zh _) K (by omega);rw[List.drop_length,YV]at b;have n:val []%2^s=0:=Nat.zero_mod _;have o:∀v,List.replicate a.length 0++dg 0 v=List.replicate a.length 0:=fun v=>ZS _
 rw[n,o]at b;have g:4*a.length<=lim:=by unfold lim;omega
 have h:a.length<=9223372036854775807:=by omega
 have i:Xe .i64 (.ofNat a.length-.ofNat 1)=pI a.length:=Uk (by omega);simp only[Xm,Xq,reduceIte,Nat.reduceEqDiff,Nat.reduceLeDiff,Nat.reduceAdd,x193,f.len,g,h,i,Zh,U0,b,j,U5 _ (Y0 (X9 a.length (val a / 2^s))),Vd,X9,VX,Uf,l,X5,e1]
end Go.Proofs.YtidginchkjhobaaGreat
namespace Go.Num
theorem lS (i v:Nat):dg (i+1) v=dg i v++[v / 4294967296^i%4294967296]:=by rw[TE];rfl
theorem um {n u v:Nat}(h:u%4294967296^n=v%4294967296^n):dg n u=dg n v:=by rw[<-rX n u,h,rX]
theorem xM {X w p c:Nat}(a:0<p):(X+w*p)*c / p=w*c+X*c / p/\(X+w*p)*c%p=X*c%p:=by
 have e:(X+w*p)*c=X*c+p*(w*c):=by rw[ZG,ZH w p,Yi]
 rw[e];exact⟨by rw[Nat.add_mul_div_left _ _ a,Y1],by rw[Nat.add_mul_mod_self_left]⟩
theorem Bd {a:Type}(l:List a)(z x:a)(k:Nat):(l++List.replicate (k+1) z).set l.length x=l++[x]++List.replicate k z:=by
 rw[List.set_append_right _ _ (Zh _),YV,List.replicate_succ,List.set_cons_zero];simp
theorem sZ {a:Type}(l:List a)(z:a)(k:Nat):(l++List.replicate (k+1) z)[l.length]? =some z:=by
 rw[ZL (Zh _),YV,List.replicate_succ];rfl
end Go.Num
namespace Go.Proofs.YtidginchkjhobaaGreat
open Go.Ev Go.Num
theorem Gv {c w s:Nat}(f:w<4294967296)(d:c<2^s)(e:s<32):UB .u64 (Nat.lor (WK .u64 (.ofNat (w*2^s))) (WK .u64 (.ofNat c)))=.ofNat (w*2^s+c):=by
 have b:=O9 e;have g:=Nat.mul_lt_mul'' f b;have e1:WK .u64 (.ofNat (w*2^s))=2^s*w:=by show w*2^s%18446744073709551616=_;rw[Zg (by omega),ZH]
 have e2:WK .u64 (.ofNat c)=c:=by show c%18446744073709551616=_;omega
 have a:Nat.lor (2^s*w) c=2^s*w+c:=(Nat.two_pow_add_eq_or_of_lt d w).symm;rw[e1,e2,a,ZH];rfl
def F1 (T:List (Nat×DV))(la:PL)(s n N i c:Nat):Prop:=
 Xh T 0=some (.one (.p la))/\Xh T 1=some (.one (.p (.int .i64 (.ofNat s))))/\Xh T 5=some (.one (.own N 0 0 (n+1)))/\Xh T 6=some (.one (.p (.int .u64 (.ofNat c))))/\Xh T 14=some (.one (.p (.int .i64 (.ofNat n))))/\Xh T 15=some (.one (.p (.int .i64 (.ofNat i))))
theorem ng {E:Xa}{K:Nat}{q:PL}{a:List Nat}(A:Ui q a)(l:Wz a)(N:a.length<1000000000000){s:Nat}(j:s<32)(t:Nat)(H:List Xz):∀(d i:Nat),i+d=a.length->∀(k:Nat),d<k->∀T,F1 T q s a.length H.length i (val (a.take i)*2^s / 4294967296^i)->
  ∃g,Xb E K 0 [0,1,5,6,14,15] x191_1 k ⟨T,H++[⟨false,0,1,Wi (dg i (val (a.take i)*2^s)++List.replicate (d+1) 0),false,t⟩]⟩=
   some (.exit 0,⟨g,H++[⟨false,0,1,Wi (dg a.length (val a*2^s)++[0]),false,t⟩]⟩)/\Xh g 0=some (.one (.p q))/\Xh g 5=some (.one (.own H.length 0 0 (a.length+1)))/\Xh g 6=some (.one (.p (.int .u64 (.ofNat (val a*2^s / 4294967296^a.length)))))
 |_,_,_,0,h=>by omega
 |0,i,hi,k+1,_=>by
  obtain rfl:i=a.length:=by omega
  intro T ⟨r,B,u,v,b,e⟩;apply VE
  ·rw[Xb];simp only[Xm,Xq,reduceIte,x191_1,Zx,Yv,b,e];rfl
  ·simp only[Xm,reduceIte,Nat.reduceEqDiff,r,u,v,and_self,Yv]
 |d+1,i,hi,k+1,hk=>by
  intro T ⟨r,B,u,v,b,e⟩;have z:=ng (E:=E) (K:=K) A l N j t H d (i+1) (by omega) k (by omega);obtain⟨w,m⟩:∃w,a[i]? =some w:=⟨_,Zf (by omega)⟩;have f:=l.get m;have n:i<a.length:=by omega
  have o:i<a.length+1:=by omega
  have O:0<4294967296^i:=YL (by decide);obtain⟨e1,e2⟩:=xM (X:=val (a.take i)) (w:=w) (c:=2^s) O;have L:val (a.take i)<4294967296^i:=by
   have:=WW (ws:=a.take i) (fun x n=>l x (YM n))
   rwa[ZO,Yt (by omega)]at this
  have M:val (a.take i)*2^s / 4294967296^i<2^s:=Yp (Yu L (YL (by decide)));have P:=O9 j;rw[Vl m,lS,um e2,ZK,<-Nat.div_div_eq_div_mul,e1]at z;generalize val (a.take i)*2^s / 4294967296^i=c at *;have y:=X9 i (val (a.take i)*2^s);generalize dg i (val (a.take i)*2^s)=D at *;have C:w%18446744073709551616=w:=Zg (by omega);have F:Xe .i64 (.ofNat (i+1))=.ofNat (i+1):=wrap_i64 (by omega);have G:(D++List.replicate (d+1+1) 0)[i]? =some 0:=by rw[<-y];exact sZ D 0 (d+1)
  have I:=X2 G;have J:∀x,(D++List.replicate (d+1+1) 0).set i x=D++[x]++List.replicate (d+1) 0:=fun x=>by rw[<-y];exact Bd D 0 x (d+1)
  rw[Xb];simp only[Xm,uE,Xq,reduceIte,Nat.reduceEqDiff,Nat.reduceLeDiff,Zt,x191_1,r,B,u,v,b,e,n,o,A.idx m,C,CY f j,Gv f M j,F,I,J,WH];exact z _ ⟨rfl,rfl,rfl,rfl,rfl,rfl⟩
theorem sT {B:Xs}(g:Std B){b:PL}{a:List Nat}(i:Ui b a)(d:Wz a)(w:a.length<1000000000000){s:Nat}(h:s<32)(H:List Xz):
  S3 B 191 [.one (.p b),.one (.p (.int .i64 (.ofNat s)))] H (.one (.own H.length 0 0 (a.length+1))) (H++[⟨false,0,1,Wi (dg (a.length+1) (val a*2^s)),false,177⟩]):=by
 refine S3.of (g.Wa _ _ rfl) (((X1.ge (a.length+1)).and g.Xj).mono fun E K ⟨F,J⟩=> ?_);have z:val (a.take 0)*2^s / 4294967296^0=0:=by simp[val]
 obtain⟨C,f,r,t,u⟩:=ng (E:=E) (K:=K) i d w h 177 H a.length 0 (by omega) K (by omega) [(0,.one (.p b)),(1,.one (.p (.int .i64 (.ofNat s)))),(5,.one (.own H.length 0 0 (a.length+1))),(6,.one (.p (.int .u64 (.ofNat 0)))),(14,.one (.p (.int .i64 (.ofNat a.length)))),(15,.one (.p (.int .i64 (.ofNat 0))))] ⟨rfl,rfl,rfl,by rw[z];rfl,rfl,rfl⟩;have A:∀v,dg 0 v++List.replicate (a.length+1) 0=List.replicate (a.length+1) 0:=fun v=>ZF _
 rw[A]at f;have I:=O9 h;have y:=WW d;have G:val a*2^s / 4294967296^a.length<2^s:=Yp (Yu y (YL (by decide)));rw[lS];generalize val a*2^s / 4294967296^a.length=c at *;have e:=X9 a.length (val a*2^s);generalize dg a.length (val a*2^s)=D at *;have m:(D++[0])[a.length]? =some 0:=by rw[<-e];exact sZ D 0 0
 have n:=X2 m;have o:∀x,(D++[0]).set a.length x=D++[x]:=fun x=>by rw[<-e];simp
 have j:4*(a.length+1)<=lim:=by unfold lim;omega
 have k:a.length+1<=9223372036854775807:=by omega
 have l:Xe .i64 (.ofNat (a.length+1))=.ofNat (a.length+1):=wrap_i64 (by omega);have q:a.length<a.length+1:=by omega
 simp only[Xm,Vm,uE,Xq,reduceIte,Nat.reduceEqDiff,Nat.reduceLeDiff,Nat.reduceAdd,Zt,x191,i.len,j,k,l,n,o,q,Zh,U0,WH,f,r,t,u]
end Go.Proofs.YtidginchkjhobaaGreat
namespace Go.Num
theorem jD (q r v1 v2 u2:Nat):q*(v1*4294967296+v2)=q*v1*4294967296+q*v2/\(q*v1+r)*4294967296+u2=q*v1*4294967296+r*4294967296+u2:=⟨by rw[Nat.mul_add,Yi],by rw[ZG]⟩
theorem Nq {q r v1 v2 a u2:Nat}(h:q*v1+r=a)(d:q*v2<=r*4294967296+u2):q*(v1*4294967296+v2)<=a*4294967296+u2:=by
 obtain⟨b,c⟩:=jD q r v1 v2 u2;rw[<-h,b,c,Nat.add_assoc];exact Nat.add_le_add_left d _
theorem fZ {q r v1 v2 a u2:Nat}(h:q*v1+r=a)(d:r*4294967296+u2<q*v2):a*4294967296+u2<q*(v1*4294967296+v2):=by
 obtain⟨b,c⟩:=jD q r v1 v2 u2;rw[<-h,b,c,Nat.add_assoc];exact Nat.add_lt_add_left d _
theorem RZ {q r v1 v2 a u2:Nat}(h:q*v1+r=a)(d:4294967296<=r)(c:v2<4294967296)(e:a<v1*4294967296+4294967296):q<4294967296/\q*(v1*4294967296+v2)<=a*4294967296+u2:=by
 have b:q<4294967296:=by
  rcases Yj q 4294967296 with h1|h1
  ·exact h1
  ·have:=Zp v1 h1;rw[ZH]at this;omega
 refine⟨b,Nq h ?_⟩;have:=ZU (Nat.le_sub_one_of_lt b) (Nat.le_sub_one_of_lt c);omega
def qd (v1 v2 top u2 q:Nat):Prop:=q<4294967296/\q*(v1*4294967296+v2)<=top*4294967296+u2/\(4294967295<=q\/top*4294967296+u2<(q+1)*(v1*4294967296+v2))
end Go.Num
namespace Go.Proofs.YtidginchkjhobaaGreat
open Go.Ev Go.Num
section
variable {E:Xa}{K:Nat}{H:List Xz}{iu iv j m tu tv k:Nat}{U V:List Nat}{v1 v2 u2 p q r:Nat}
theorem zo (M:H[iu]? =some ⟨false,0,1,Wi U,false,tu⟩)(n:H[iv]? =some ⟨false,0,1,Wi V,false,tv⟩)(I:m<1000000000000)(d:V[m+1]? =some v1)(e:V[m]? =some v2)(f:U[j+m]? =some u2)(s:v1<4294967296)(t:v2<4294967296)(u:u2<4294967296)(L:r<4294967296)(J:p<=4294967298)(l:4294967296<=p+1)(i:¬4294967296<=r+v1):Xb E K 0 [0,1,5,7,8] x192_1 (k+1) ⟨[(0,.one (.own iu 0 j (m+3))),(1,.one (.own iv 0 0 (m+2))),(5,.one (.p (.int .i64 (.ofNat (m+2))))),(7,.one (.p (.int .u64 (.ofNat (p+1))))),(8,.one (.p (.int .u64 (.ofNat r))))],H⟩=Xb E K 0 [0,1,5,7,8] x192_1 k ⟨[(0,.one (.own iu 0 j (m+3))),(1,.one (.own iv 0 0 (m+2))),(5,.one (.p (.int .i64 (.ofNat (m+2))))),(7,.one (.p (.int .u64 (.ofNat p)))),(8,.one (.p (.int .u64 (.ofNat (r+v1)))))],H⟩:=by
 have W:Xe .i64 (.ofNat (m+2)-.ofNat 2)=.ofNat m:=by rw[Wj (by omega) (by omega)];rfl
 have q:Xe .i64 (.ofNat (m+2)-.ofNat 1)=.ofNat (m+1):=by rw[Wj (by omega) (by omega)];rfl
 have w1:=X2 d;have X:=X2 e;have Y:=X2 f;have O:m<m+2:=by omega
 have o:m+1<m+2:=by omega
 have P:m<m+3:=by omega
 have a:v1%18446744073709551616=v1:=Zg (by omega);have y:v2%18446744073709551616=v2:=Zg (by omega);have z:u2%18446744073709551616=u2:=Zg (by omega);have c:(r+v1)%18446744073709551616=r+v1:=Zg (by omega);have b:Xe .u64 (.ofNat (p+1)-.ofNat 1)=.ofNat p:=by rw[TM (by omega),wrap_u64,Yl,Zg (by omega)]
 obtain⟨v,N,Q,T,S,x,w,A,g,B,C,D,F,G,h,R⟩:=T6;rw[<-g,h];simp only[Tl,R,Xq,reduceIte,Nat.reduceEqDiff,Nat.reduceAdd,Zt,x192_1,n,q,w1,o,a,b,c,l,i]
theorem wh (N:H[iu]? =some ⟨false,0,1,Wi U,false,tu⟩)(o:H[iv]? =some ⟨false,0,1,Wi V,false,tv⟩)(J:m<1000000000000)(e:V[m+1]? =some v1)(f:V[m]? =some v2)(g:U[j+m]? =some u2)(t:v1<4294967296)(u:v2<4294967296)(v:u2<4294967296)(M:r<4294967296)(L:p<=4294967298)(n:4294967296<=p+1)(l:4294967296<=r+v1):∃a,Xb E K 0 [0,1,5,7,8] x192_1 (k+1) ⟨[(0,.one (.own iu 0 j (m+3))),(1,.one (.own iv 0 0 (m+2))),(5,.one (.p (.int .i64 (.ofNat (m+2))))),(7,.one (.p (.int .u64 (.ofNat (p+1))))),(8,.one (.p (.int .u64 (.ofNat r))))],H⟩=some (.exit 0,⟨a,H⟩)/\Xh a 0=some (.one (.own iu 0 j (m+3)))/\Xh a 1=some (.one (.own iv 0 0 (m+2)))/\Xh a 5=some (.one (.p (.int .i64 (.ofNat (m+2)))))/\Xh a 7=some (.one (.p (.int .u64 (.ofNat p)))):=by
 have X:Xe .i64 (.ofNat (m+2)-.ofNat 2)=.ofNat m:=by rw[Wj (by omega) (by omega)];rfl
 have s:Xe .i64 (.ofNat (m+2)-.ofNat 1)=.ofNat (m+1):=by rw[Wj (by omega) (by omega)];rfl
 have w1:=X2 e;have Y:=X2 f;have Z:=X2 g;have P:m<m+2:=by omega
 have q:m+1<m+2:=by omega
 have Q:m<m+3:=by omega
 have b:v1%18446744073709551616=v1:=Zg (by omega);have z:v2%18446744073709551616=v2:=Zg (by omega);have A:u2%18446744073709551616=u2:=Zg (by omega);have d:(r+v1)%18446744073709551616=r+v1:=Zg (by omega);have c:Xe .u64 (.ofNat (p+1)-.ofNat 1)=.ofNat p:=by rw[TM (by omega),wrap_u64,Yl,Zg (by omega)]
 apply VE
 ·obtain⟨w,O,S,W,T,y,x,B,h,C,D,F,G,I,i,R⟩:=T6;rw[<-h,i];simp only[Tl,R,Xq,reduceIte,Nat.reduceEqDiff,Nat.reduceAdd,Zt,x192_1,o,s,w1,q,b,c,d,n,l];rfl
 ·simp only[Xm,reduceIte,Nat.reduceEqDiff,and_self]
theorem zn (y:H[iu]? =some ⟨false,0,1,Wi U,false,tu⟩)(A:H[iv]? =some ⟨false,0,1,Wi V,false,tv⟩)(Y:m<1000000000000)(l:V[m+1]? =some v1)(n:V[m]? =some v2)(o:U[j+m]? =some u2)(L:v1<4294967296)(b:v2<4294967296)(c:u2<4294967296)(a:r<4294967296)(v:¬4294967296<=p+1)(w:r*4294967296+u2<(p+1)*v2)(t:¬4294967296<=r+v1):Xb E K 0 [0,1,5,7,8] x192_1 (k+1) ⟨[(0,.one (.own iu 0 j (m+3))),(1,.one (.own iv 0 0 (m+2))),(5,.one (.p (.int .i64 (.ofNat (m+2))))),(7,.one (.p (.int .u64 (.ofNat (p+1))))),(8,.one (.p (.int .u64 (.ofNat r))))],H⟩=Xb E K 0 [0,1,5,7,8] x192_1 k ⟨[(0,.one (.own iu 0 j (m+3))),(1,.one (.own iv 0 0 (m+2))),(5,.one (.p (.int .i64 (.ofNat (m+2))))),(7,.one (.p (.int .u64 (.ofNat p)))),(8,.one (.p (.int .u64 (.ofNat (r+v1)))))],H⟩:=by
 have G:Xe .i64 (.ofNat (m+2)-.ofNat 2)=.ofNat m:=by rw[Wj (by omega) (by omega)];rfl
 have F:Xe .i64 (.ofNat (m+2)-.ofNat 1)=.ofNat (m+1):=by rw[Wj (by omega) (by omega)];rfl
 have w1:=X2 l;have I:=X2 n;have J:=X2 o;have B:m<m+2:=by omega
 have C:m+1<m+2:=by omega
 have D:m<m+3:=by omega
 have d:v1%18446744073709551616=v1:=Zg (by omega);have e:v2%18446744073709551616=v2:=Zg (by omega);have f:u2%18446744073709551616=u2:=Zg (by omega);have h:(r+v1)%18446744073709551616=r+v1:=Zg (by omega);have g:Xe .u64 (.ofNat (p+1)-.ofNat 1)=.ofNat p:=by rw[TM (by omega),wrap_u64,Yl,Zg (by omega)]
 have i:(p+1)*v2%18446744073709551616=(p+1)*v2:=by
  have:=Tc (x:=p+1) (by omega) b (z:=0) (u:=0) (by omega) (by omega);exact Zg (by omega)
 obtain⟨M,Z,oD,oS,oR,O,N,P,q,Q,S,T,W,X,s,R⟩:=T6;rw[<-q,s];simp only[Tl,R,Xq,reduceIte,Nat.reduceEqDiff,Nat.reduceAdd,Zt,x192_1,y,A,F,G,w1,I,J,B,C,D,d,e,f,g,h,i,v,eV a,qZ a c,w,t]
theorem wg (A:H[iu]? =some ⟨false,0,1,Wi U,false,tu⟩)(B:H[iv]? =some ⟨false,0,1,Wi V,false,tv⟩)(Z:m<1000000000000)(n:V[m+1]? =some v1)(o:V[m]? =some v2)(q:U[j+m]? =some u2)(M:v1<4294967296)(c:v2<4294967296)(d:u2<4294967296)(b:r<4294967296)(w:¬4294967296<=p+1)(y:r*4294967296+u2<(p+1)*v2)(v:4294967296<=r+v1):∃a,Xb E K 0 [0,1,5,7,8] x192_1 (k+1) ⟨[(0,.one (.own iu 0 j (m+3))),(1,.one (.own iv 0 0 (m+2))),(5,.one (.p (.int .i64 (.ofNat (m+2))))),(7,.one (.p (.int .u64 (.ofNat (p+1))))),(8,.one (.p (.int .u64 (.ofNat r))))],H⟩=some (.exit 0,⟨a,H⟩)/\Xh a 0=some (.one (.own iu 0 j (m+3)))/\Xh a 1=some (.one (.own iv 0 0 (m+2)))/\Xh a 5=some (.one (.p (.int .i64 (.ofNat (m+2)))))/\Xh a 7=some (.one (.p (.int .u64 (.ofNat p)))):=by
 have I:Xe .i64 (.ofNat (m+2)-.ofNat 2)=.ofNat m:=by rw[Wj (by omega) (by omega)];rfl
 have G:Xe .i64 (.ofNat (m+2)-.ofNat 1)=.ofNat (m+1):=by rw[Wj (by omega) (by omega)];rfl
 have w1:=X2 n;have J:=X2 o;have L:=X2 q;have C:m<m+2:=by omega
 have D:m+1<m+2:=by omega
 have F:m<m+3:=by omega
 have e:v1%18446744073709551616=v1:=Zg (by omega);have f:v2%18446744073709551616=v2:=Zg (by omega);have g:u2%18446744073709551616=u2:=Zg (by omega);have i:(r+v1)%18446744073709551616=r+v1:=Zg (by omega);have h:Xe .u64 (.ofNat (p+1)-.ofNat 1)=.ofNat p:=by rw[TM (by omega),wrap_u64,Yl,Zg (by omega)]
 have l:(p+1)*v2%18446744073709551616=(p+1)*v2:=by
  have:=Tc (x:=p+1) (by omega) c (z:=0) (u:=0) (by omega) (by omega);exact Zg (by omega)
 apply VE
 ·obtain⟨N,lK,oD,oS,oR,P,O,Q,s,S,T,W,X,Y,t,R⟩:=T6;rw[<-s,t];simp only[Tl,R,Xq,reduceIte,Nat.reduceEqDiff,Nat.reduceAdd,Zt,x192_1,A,B,G,I,w1,J,L,C,D,F,e,f,g,h,i,l,w,eV b,qZ b d,y,v];rfl
 ·simp only[Xm,reduceIte,Nat.reduceEqDiff,and_self]
theorem BN (v:H[iu]? =some ⟨false,0,1,Wi U,false,tu⟩)(w:H[iv]? =some ⟨false,0,1,Wi V,false,tv⟩)(T:m<1000000000000)(h:V[m+1]? =some v1)(i:V[m]? =some v2)(l:U[j+m]? =some u2)(F:v1<4294967296)(c:v2<4294967296)(d:u2<4294967296)(b:r<4294967296)(s:¬4294967296<=q)(t:¬r*4294967296+u2<q*v2):∃a,Xb E K 0 [0,1,5,7,8] x192_1 (k+1) ⟨[(0,.one (.own iu 0 j (m+3))),(1,.one (.own iv 0 0 (m+2))),(5,.one (.p (.int .i64 (.ofNat (m+2))))),(7,.one (.p (.int .u64 (.ofNat q)))),(8,.one (.p (.int .u64 (.ofNat r))))],H⟩=some (.exit 0,⟨a,H⟩)/\Xh a 0=some (.one (.own iu 0 j (m+3)))/\Xh a 1=some (.one (.own iv 0 0 (m+2)))/\Xh a 5=some (.one (.p (.int .i64 (.ofNat (m+2)))))/\Xh a 7=some (.one (.p (.int .u64 (.ofNat q)))):=by
 have B:Xe .i64 (.ofNat (m+2)-.ofNat 2)=.ofNat m:=by rw[Wj (by omega) (by omega)];rfl
 have s1:Xe .i64 (.ofNat (m+2)-.ofNat 1)=.ofNat (m+1):=by rw[Wj (by omega) (by omega)];rfl
 have w1:=X2 h;have C:=X2 i;have D:=X2 l;have y:m<m+2:=by omega
 have X:m+1<m+2:=by omega
 have A:m<m+3:=by omega
 have L:v1%18446744073709551616=v1:=Zg (by omega);have e:v2%18446744073709551616=v2:=Zg (by omega);have f:u2%18446744073709551616=u2:=Zg (by omega);have g:q*v2%18446744073709551616=q*v2:=by
  have:=Tc (x:=q) (by omega) c (z:=0) (u:=0) (by omega) (by omega);exact Zg (by omega)
 apply VE
 ·obtain⟨G,W,Y,oS,Z,J,I,M,n,N,O,P,Q,S,o,R⟩:=T6;rw[<-n,o];simp only[Tl,R,Xq,reduceIte,Nat.reduceEqDiff,Nat.reduceAdd,Zt,x192_1,v,w,B,C,D,y,A,e,f,g,s,eV b,qZ b d,t];rfl
 ·simp only[Xm,reduceIte,Nat.reduceEqDiff,and_self]
theorem rJ (A:H[iu]? =some ⟨false,0,1,Wi U,false,tu⟩)(B:H[iv]? =some ⟨false,0,1,Wi V,false,tv⟩)(y:m<1000000000000)(v:V[m+1]? =some v1)(w:V[m]? =some v2)(x:U[j+m]? =some u2)(s:v1<4294967296)(g:v2<4294967296)(t:u2<4294967296){b:Nat}(J:b<v1*4294967296+4294967296):∀(d q r:Nat),q*v1+r=b->r<4294967296->q<=4294967298->4294967296<=r+d*v1->(4294967296<=q+1\/b*4294967296+u2<(q+1)*(v1*4294967296+v2))->∀k,d<k->
  ∃a o,Xb E K 0 [0,1,5,7,8] x192_1 k ⟨[(0,.one (.own iu 0 j (m+3))),(1,.one (.own iv 0 0 (m+2))),(5,.one (.p (.int .i64 (.ofNat (m+2))))),(7,.one (.p (.int .u64 (.ofNat q)))),(8,.one (.p (.int .u64 (.ofNat r))))],H⟩=some (.exit 0,⟨a,H⟩)/\(Xh a 0=some (.one (.own iu 0 j (m+3)))/\Xh a 1=some (.one (.own iv 0 0 (m+2)))/\Xh a 5=some (.one (.p (.int .i64 (.ofNat (m+2)))))/\Xh a 7=some (.one (.p (.int .u64 (.ofNat o)))))/\qd v1 v2 b u2 o:=by
 intro d;induction d with
 |zero=>intro q r _ n _ F;omega
 |succ d L=>
  intro q r e n O F D k N;obtain⟨k,rfl⟩:∃M,k=M+1:=⟨k-1,by omega⟩;by_cases l:4294967296<=q
  ·obtain⟨p,rfl⟩:∃p,q=p+1:=⟨q-1,by omega⟩;have u:p*v1+(r+v1)=b:=by rw[Nat.succ_mul]at e;omega
   by_cases i:4294967296<=r+v1
   ·obtain⟨G,I⟩:=RZ (u2:=u2) u i g J;obtain⟨a,c,f⟩:=wh (E:=E) (K:=K) (k:=k) A B y v w x s g t n (by omega) l i;exact⟨a,p,c,f,G,I,.inl (by omega)⟩
   ·obtain⟨a,o,c,f⟩:=L p (r+v1) u (by omega) (by omega) (by rw[Nat.succ_mul]at F;omega) (.inl l) k (by omega);exact⟨a,o,by rw[zo A B y v w x s g t n (by omega) l i];exact c,f⟩
  ·by_cases C:r*4294967296+u2<q*v2
   ·obtain⟨p,rfl⟩:∃p,q=p+1:=by
     rcases Yh q with h|h
     ·subst h;omega
     ·exact⟨q-1,by omega⟩
    have u:p*v1+(r+v1)=b:=by rw[Nat.succ_mul]at e;omega
    have z:=fZ e C;by_cases i:4294967296<=r+v1
    ·obtain⟨G,I⟩:=RZ (u2:=u2) u i g J;obtain⟨a,c,f⟩:=wg (E:=E) (K:=K) (k:=k) A B y v w x s g t n l C i;exact⟨a,p,c,f,G,I,.inr z⟩
    ·obtain⟨a,o,c,f⟩:=L p (r+v1) u (by omega) (by omega) (by rw[Nat.succ_mul]at F;omega) (.inr z) k (by omega);exact⟨a,o,by rw[zn A B y v w x s g t n l C i];exact c,f⟩
   ·obtain⟨a,c,f⟩:=BN (E:=E) (K:=K) (k:=k) A B y v w x s g t n l C;refine⟨a,q,c,f,by omega,Nq e (by omega),?_⟩;rcases D with D|D
    ·exact .inl (by omega)
    ·exact .inr D
end
end Go.Proofs.YtidginchkjhobaaGreat
namespace Go.Num
theorem OF {a:Type}(P R:List a)(x:a){k:Nat}(h:P.length=k):(P++x::R)[k]? =some x:=by subst h;simp
theorem OE {a:Type}(P R:List a)(x y:a){k:Nat}(h:P.length=k):(P++x::R).set k y=P++[y]++R:=by subst h;simp
theorem Rt {a:Type}{H:List a}{i:Nat}{b:a}(h:H[i]? =some b):H.set i b=H:=by
 obtain⟨c,rfl⟩:=Zb.1 h;exact List.set_getElem_self c
theorem QS {a:Type}{H:List a}{i:Nat}{b c:a}(h:H[i]? =some b):(H.set i c)[i]? =some c:=by
 obtain⟨d,-⟩:=Zb.1 h;simp[d]
theorem bp {d:Type}{H:List d}{i j:Nat}{b c:d}(a:i≠j)(h:H[j]? =some b):(H.set i c)[j]? =some b:=by
 rw[ZM a];exact h
theorem Wz.snoc {a:List Nat}{w:Nat}(h:Wz a)(b:w<4294967296):Wz (a++[w]):=by
 intro x c;rcases Yc.1 c with h1|h1
 ·exact h x h1
 ·rw[Ym.1 h1];exact b
theorem NL (a:List Nat)(w:Nat){i:Nat}(h:a.length=i):val (a++[w])=val a+w*4294967296^i:=by
 rw[QN,h];simp only[val,Nat.mul_zero,Yk];rw[ZH]
theorem SO (x i:Nat):x%4294967296^(i+1)=x%4294967296^i+4294967296^i*(x / 4294967296^i%4294967296):=Nat.mod_pow_succ
theorem lT (k x i:Nat):dg (k+1) (x / 4294967296^i)=x / 4294967296^i%4294967296::dg k (x / 4294967296^(i+1)):=by
 rw[dg,Nat.div_div_eq_div_mul,ZK]
theorem lZ {low hi:List Nat}{U j n i:Nat}(b:low.length=j)(a:i<n):(low++(dg n U++hi))[j+i]? =some (U / 4294967296^i%4294967296):=by
 rw[ZL (by omega),show j+i-low.length=i by omega,ZB (by rw[X9];exact a),bT a]
theorem sK {Y q j P g i f c b w t a d:Nat}(h:Y+q*j=i+(c+b)*P)(l:t=q*g+c)(k:a=t / 4294967296)(m:w+t%4294967296+b=f+4294967296*d):
  (Y+w*P)+q*(j+P*g)=i+P*f+(a+d)*(P*4294967296):=by
 have e:4294967296*a+t%4294967296=t:=by rw[k];exact YC ..
 have e2:w+q*g+c+b=f+(d+a)*4294967296:=by omega
 clear m e k l
 grind
end Go.Num
namespace Go.Proofs.YtidginchkjhobaaGreat
open Go.Ev Go.Num
section
variable {E:Xa}{K:Nat}{iu iv j n tu tv:Nat}{low hi Vw:List Nat}{U V q:Nat}
theorem mU (F:iu≠iv)(o:low.length=j)(hn:n<1000000000000)(Y:q<4294967296)(X:∀i,i<n->Vw[i]? =some (V / 4294967296^i%4294967296)):∀(d i k:Nat) (H:List Xz) (e:List Nat) (c b:Nat),i+d=n->d<k->
  H[iu]? =some ⟨false,0,1,Wi (low++e++(dg (d+1) (U / 4294967296^i)++hi)),false,tu⟩->H[iv]? =some ⟨false,0,1,Wi Vw,false,tv⟩->e.length=i->Wz e->c<4294967296->b<=1->val e+q*(V%4294967296^i)=U%4294967296^i+(c+b)*4294967296^i->
  ∃a f y x,Xb E K 0 [0,1,5,7,9,10,82,83] x192_2 k ⟨[(0,.one (.own iu 0 j (n+1))),(1,.one (.own iv 0 0 n)),(5,.one (.p (.int .i64 (.ofNat n)))),(7,.one (.p (.int .u64 (.ofNat q)))),(9,.one (.p (.int .u64 (.ofNat c)))),(10,.one (.p (.int .u64 (.ofNat b)))),(82,.one (.p (.int .i64 (.ofNat n)))),(83,.one (.p (.int .i64 (.ofNat i))))],H⟩=
   some (.exit 2,⟨a,H.set iu ⟨false,0,1,Wi (low++f++(dg 1 (U / 4294967296^n)++hi)),false,tu⟩⟩)/\
   (Xh a 0=some (.one (.own iu 0 j (n+1)))/\Xh a 1=some (.one (.own iv 0 0 n))/\Xh a 5=some (.one (.p (.int .i64 (.ofNat n))))/\Xh a 7=some (.one (.p (.int .u64 (.ofNat q))))/\Xh a 9=some (.one (.p (.int .u64 (.ofNat y))))/\Xh a 10=some (.one (.p (.int .u64 (.ofNat x)))))/\
   f.length=n/\Wz f/\y<4294967296/\x<=1/\val f+q*(V%4294967296^n)=U%4294967296^n+(y+x)*4294967296^n
 |_,_,0,_,_,_,_,_,h,_,_,_,_,_,_,_=>by omega
 |0,i,k+1,H,e,c,b,hi',_,hu,hv,h1,h2,h3,h4,h5=>by
  obtain rfl:i=n:=by omega
  rw[show(dg (0+1) (U / 4294967296^i))=dg 1 (U / 4294967296^i)from rfl]at hu;have :∃a,Xb E K 0 [0,1,5,7,9,10,82,83] x192_2 (k+1) ⟨[(0,.one (.own iu 0 j (i+1))),(1,.one (.own iv 0 0 i)),(5,.one (.p (.int .i64 (.ofNat i)))),(7,.one (.p (.int .u64 (.ofNat q)))),(9,.one (.p (.int .u64 (.ofNat c)))),(10,.one (.p (.int .u64 (.ofNat b)))),(82,.one (.p (.int .i64 (.ofNat i)))),(83,.one (.p (.int .i64 (.ofNat i))))],H⟩=some (.exit 2,⟨a,H⟩)/\
    (Xh a 0=some (.one (.own iu 0 j (i+1)))/\Xh a 1=some (.one (.own iv 0 0 i))/\Xh a 5=some (.one (.p (.int .i64 (.ofNat i))))/\Xh a 7=some (.one (.p (.int .u64 (.ofNat q))))/\Xh a 9=some (.one (.p (.int .u64 (.ofNat c))))/\Xh a 10=some (.one (.p (.int .u64 (.ofNat b))))):=by
   apply VE
   ·obtain⟨cE,lK,oD,oS,oR,dS,dD,e1,e2,e3,e4,e5,e6,e7,M,R⟩:=T6;rw[<-e2,M];simp only[Tl,R,Xq,reduceIte,Nat.reduceEqDiff,x192_2,Zx];rfl
   ·simp only[Xm,reduceIte,Nat.reduceEqDiff,and_self]
  obtain⟨a,v,L⟩:=this;exact⟨a,e,c,b,by rw[Rt hu];exact v,L,h1,h2,h3,h4,h5⟩
 |d+1,i,k+1,H,e,c,b,hi',hk,hu,hv,h1,h2,h3,h4,h5=>by
  have D:i<n:=by omega
  have I:=X i D;obtain⟨m,C⟩:∃m,m=V / 4294967296^i%4294967296:=⟨_,rfl⟩;obtain⟨g,B⟩:∃g,g=U / 4294967296^i%4294967296:=⟨_,rfl⟩;have P:m<4294967296:=by omega
  have a0:g<4294967296:=by omega
  rw[lT,ZI,<-B]at hu;rw[<-C]at I;have G:(low++e).length=j+i:=by rw[Zk,o,h1]
  have ht:=Tc Y P (z:=0) (u:=c) (by omega) h3;obtain⟨t,J⟩:∃t,t=q*m+c:=⟨_,rfl⟩;have f1:m%18446744073709551616=m:=Zg (by omega);have f2:g%18446744073709551616=g:=Zg (by omega);have f3:q*m%18446744073709551616=q*m:=Zg (by omega);have T:t%18446744073709551616=t:=Zg (by omega);have W:t%4294967296%18446744073709551616=t%4294967296:=Zg (by omega);have f6:Xe .i64 (.ofNat (i+1))=.ofNat (i+1):=wrap_i64 (by omega);obtain⟨A,Z,p1⟩:∃A,Xe .u64 (.ofNat g-.ofNat (t%4294967296))=.ofNat A/\A=(g+(18446744073709551616-t%4294967296))%18446744073709551616:=⟨_,Ot (by omega),rfl⟩;obtain⟨l,k2,p2⟩:∃l,Xe .u64 (.ofNat A-.ofNat b)=.ofNat l/\l=(A+(18446744073709551616-b))%18446744073709551616:=⟨_,Ot (by omega),rfl⟩;have Q:l%4294967296+t%4294967296+b=g+4294967296*(l / 9223372036854775808):=by omega
  have N:l / 9223372036854775808<=1:=by omega
  have O:t / 4294967296<4294967296:=by omega
  have s:=sK h5 J rfl Q;have r:l%4294967296<4294967296:=by omega
  obtain⟨w,S⟩:∃w,w=l%4294967296:=⟨_,rfl⟩;rw[<-S]at s r;obtain⟨a,f,y,x,v,L,g3,g4,g5,g6,g7⟩:=mU F o hn Y X d (i+1) k (H.set iu ⟨false,0,1,Wi (low++(e++[w])++(dg (d+1) (U / 4294967296^(i+1))++hi)),false,tu⟩) (e++[w]) (t / 4294967296) (l / 9223372036854775808) (by omega) (by omega)
   (QS hu) (bp F hv) (by simp[h1]) (h2.snoc r) O N (by rw[NL _ _ h1,SO,SO,<-C,<-B,ZK];exact s)
  rw[List.set_set]at v;refine⟨a,f,y,x,?_,L,g3,g4,g5,g6,g7⟩;rw[<-Zq low e [w],<-OE (low++e) _ g w G]at v;have a1:=X2 I;have a2:=X2 (OF (low++e) (dg (d+1) (U / 4294967296^(i+1))++hi) g G);have a3:i<n+1:=by omega
  rw[J]at T W Z;have f7:t=q*m+c:=J;obtain⟨cE,lK,oD,oS,oR,dS,dD,e1,e2,e3,e4,e5,e6,e7,M,R⟩:=T6;rw[<-e2]at v⊢;rw[M];subst S J;simp only[Tl,R,Xq,reduceIte,Nat.reduceEqDiff,Nat.reduceLeDiff,Zt,x192_2,hu,hv,a1,a2,a3,D,f1,f2,f3,T,W,f6,Z,k2,WH];exact v
end
end Go.Proofs.YtidginchkjhobaaGreat
namespace Go.Num
theorem uC {Y a P e b f c w d:Nat}(h:Y+c*P=b+a)(g:w+4294967296*d=f+e+c):
  (Y+w*P)+d*(P*4294967296)=(b+f*P)+(a+P*e):=by grind
theorem xx {ws:List Nat}{n i:Nat}(h:i<n)(c:ws.length=n):∃w,ws[i]? =some w/\ws.drop i=w::ws.drop (i+1)/\val (ws.take (i+1))=val (ws.take i)+w*4294967296^i:=by
 obtain⟨w,a⟩:∃w,ws[i]? =some w:=⟨_,Zf (by omega)⟩;refine⟨w,a,?_,Vl a⟩;obtain⟨b,rfl⟩:=Zb.1 a;exact ZV b
end Go.Num
namespace Go.Proofs.YtidginchkjhobaaGreat
open Go.Ev Go.Num
section
variable {E:Xa}{K:Nat}{iu iv j n tu tv q:Nat}{low hi Vw ys:List Nat}{V:Nat}
theorem nv (v:iu≠iv)(l:low.length=j)(hn:n<1000000000000)(z:ys.length=n)(s:Wz ys)(F:∀i,i<n->Vw[i]? =some (V / 4294967296^i%4294967296)):∀(d i k:Nat) (H:List Xz) (b:List Nat) (c:Nat),i+d=n->d<k->
  H[iu]? =some ⟨false,0,1,Wi (low++b++(ys.drop i++hi)),false,tu⟩->H[iv]? =some ⟨false,0,1,Wi Vw,false,tv⟩->b.length=i->Wz b->c<=1->val b+c*4294967296^i=val (ys.take i)+V%4294967296^i->
  ∃a e r,Xb E K 0 [0,1,5,7,9,135,136] x192_3 k ⟨[(0,.one (.own iu 0 j (n+1))),(1,.one (.own iv 0 0 n)),(5,.one (.p (.int .i64 (.ofNat n)))),(7,.one (.p (.int .u64 (.ofNat q)))),(9,.one (.p (.int .u64 (.ofNat c)))),(135,.one (.p (.int .i64 (.ofNat n)))),(136,.one (.p (.int .i64 (.ofNat i))))],H⟩=
   some (.exit 4,⟨a,H.set iu ⟨false,0,1,Wi (low++e++hi),false,tu⟩⟩)/\
   (Xh a 0=some (.one (.own iu 0 j (n+1)))/\Xh a 5=some (.one (.p (.int .i64 (.ofNat n))))/\Xh a 7=some (.one (.p (.int .u64 (.ofNat q))))/\Xh a 9=some (.one (.p (.int .u64 (.ofNat r)))))/\
   e.length=n/\Wz e/\r<=1/\val e+r*4294967296^n=val ys+V%4294967296^n
 |_,_,0,_,_,_,_,h,_,_,_,_,_,_=>by omega
 |0,i,k+1,H,b,c,hi',_,hu,hv,h1,h2,h3,h4=>by
  obtain rfl:i=n:=by omega
  rw[YA (by omega),ZF]at hu;rw[Zd (by omega)]at h4;have :∃a,Xb E K 0 [0,1,5,7,9,135,136] x192_3 (k+1) ⟨[(0,.one (.own iu 0 j (i+1))),(1,.one (.own iv 0 0 i)),(5,.one (.p (.int .i64 (.ofNat i)))),(7,.one (.p (.int .u64 (.ofNat q)))),(9,.one (.p (.int .u64 (.ofNat c)))),(135,.one (.p (.int .i64 (.ofNat i)))),(136,.one (.p (.int .i64 (.ofNat i))))],H⟩=some (.exit 4,⟨a,H⟩)/\
    (Xh a 0=some (.one (.own iu 0 j (i+1)))/\Xh a 5=some (.one (.p (.int .i64 (.ofNat i))))/\Xh a 7=some (.one (.p (.int .u64 (.ofNat q))))/\Xh a 9=some (.one (.p (.int .u64 (.ofNat c))))):=by
   apply VE
   ·obtain⟨L,lK,oD,oS,oR,N,M,e1,e2,O,P,Q,S,T,B,R⟩:=T6;rw[<-e2,B];simp only[Tl,R,Xq,reduceIte,Nat.reduceEqDiff,x192_3,Zx];rfl
   ·simp only[Xm,reduceIte,Nat.reduceEqDiff,and_self]
  obtain⟨a,o,A⟩:=this;exact⟨a,b,c,by rw[Rt hu];exact o,A,h1,h2,h3,h4⟩
 |d+1,i,k+1,H,b,c,hi',hk,hu,hv,h1,h2,h3,h4=>by
  have m:i<n:=by omega
  have y:=F i m;obtain⟨f,u⟩:∃f,f=V / 4294967296^i%4294967296:=⟨_,rfl⟩;have a0:f<4294967296:=by omega
  obtain⟨g,y1,y2,y3⟩:=xx (ws:=ys) m z;have a4:=s.get y1;rw[y2,ZI]at hu;rw[<-u]at y;have x:(low++b).length=j+i:=by rw[Zk,l,h1]
  obtain⟨t,U⟩:∃t,t=g+f+c:=⟨_,rfl⟩;have W:f%18446744073709551616=f:=Zg (by omega);have X:g%18446744073709551616=g:=Zg (by omega);have Y:(g+f)%18446744073709551616=g+f:=Zg (by omega);have Z:(g+f+c)%18446744073709551616=g+f+c:=Zg (by omega);have f6:Xe .i64 (.ofNat (i+1))=.ofNat (i+1):=wrap_i64 (by omega);have D:t%4294967296+4294967296*(t / 4294967296)=g+f+c:=by omega
  have C:t / 4294967296<=1:=by omega
  have w:=uC h4 D;obtain⟨a,e,r,o,A,g3,g4,g5,g6⟩:=nv v l hn z s F d (i+1) k (H.set iu ⟨false,0,1,Wi (low++(b++[t%4294967296])++(ys.drop (i+1)++hi)),false,tu⟩) (b++[t%4294967296]) (t / 4294967296) (by omega) (by omega)
   (QS hu) (bp v hv) (by simp[h1]) (h2.snoc (by omega)) C (by rw[NL _ _ h1,y3,SO,<-u,ZK];exact w)
  rw[List.set_set]at o;refine⟨a,e,r,?_,A,g3,g4,g5,g6⟩;rw[<-Zq low b [t%4294967296],<-OE (low++b) _ g (t%4294967296) x]at o;have G:=X2 y;have I:=X2 (OF (low++b) (ys.drop (i+1)++hi) g x);have J:i<n+1:=by omega
  obtain⟨L,lK,oD,oS,oR,N,M,e1,e2,O,P,Q,S,T,B,R⟩:=T6;rw[<-e2]at o⊢;rw[B];subst U;simp only[Tl,R,Xq,reduceIte,Nat.reduceEqDiff,Nat.reduceLeDiff,Nat.reduceAdd,Zt,x192_3,hu,hv,G,I,J,m,W,X,Y,Z,f6,WH];exact o
end
end Go.Proofs.YtidginchkjhobaaGreat
