/- The reference's integers: the loop of divided. -/
import Derived.Test.YtefpgecinlekpaaGreatRDiv
import Derived.Test.YtefpgecinlekpaaGreatRat
set_option maxHeartbeats 16000000
set_option maxRecDepth 100000
namespace Go.Num
theorem yM {y n w d:Nat}(p:w=y / 4294967296^n)(q:0<w)(s:w<4294967296)(g:d=4294967296 / (w+1)):pK (y*d) (n+1)/\0<d/\d<4294967296:=by
 obtain⟨i,j⟩:=Tv y _ (Sn n);rw[<-p]at i j;have c:=Yw 4294967296 (w+1);have m:=ZS 4294967296 (show 0<w+1 by omega);rw[<-g]at c;have b:0<d:=by rw[g];exact Nat.div_pos (by omega) (by omega)
 have h:d<4294967296:=by rw[g];exact Nat.div_lt_self (by decide) (by omega)
 obtain⟨r,o⟩:∃r,r=4294967296%(w+1):=⟨_,rfl⟩;rw[<-o]at c m;have a:4294967296<=2*(w*d):=by
  have e:(w+1)*d=w*d+d:=by rw[ZE,Z0]
  rw[e]at c;rcases Yy 1 d with hd2|hd2
  ·rcases Yy 1 w with hw2|hw2
   ·have :2*(w-1)<=d*(w-1):=Zo _ hd2;have e2:d*(w-1)+d=w*d:=by
     obtain⟨v,rfl⟩:∃v,w=v+1:=⟨w-1,by omega⟩;rw[Yb,ZE,Z0,ZK]
    omega
   ·have :w=1:=by omega
    subst this;omega
  ·have :d=1:=by omega
   subst this;omega
 refine⟨⟨?_,?_⟩,b,h⟩
 ·rw[ZJ];have k:=Zo d i;have f:=Zo (4294967296^n) a;generalize 4294967296^n=P at *;have e3:2*(w*d)*P=2*(w*P*d):=by rw[Yr,Nat.mul_right_comm]
  rw[e3]at f;rw[ZK P];omega
 ·rw[ZJ];have k:=Yl j b;have f:(w+1)*d<=4294967296:=by omega
  have l:=Zo (4294967296^n) f;rw[Nat.mul_right_comm]at l;rw[ZK (4294967296^n)];exact ZW k l
end Go.Num
namespace Go.Proofs.YtefpgecinlekpaaGreat
open Go.Ev Go.Num
def fc (X V L N i:Nat):List Xz:=[⟨false,0,1,Wm (dg L (X%(V*4294967296^i))),false,161⟩,⟨false,0,1,Wm (List.replicate i 0++dg (N+1-i) (X / (V*4294967296^i))),false,161⟩]
def lX (E:Xb)(lv:PL)(X V L m N j:Nat):Prop:=∃q,E.pure 198 [.one (.Xv (Ug (dg (m+3) (X%(V*4294967296^(j+1)) / 4294967296^j)))),.one lv]=some (.one (.int .u64 (.ofNat q)))/\
 ((q=X%(V*4294967296^(j+1)) / 4294967296^j / V/\E.heap 199 [.one (.own 0 0 j (m+3)),.one (.p lv),.one (.p (.int .u64 (.ofNat q)))] (fc X V L N (j+1))=some (.one (.p (.bool false)),(fc X V L N (j+1)).set 0 ⟨false,0,1,Wm (dg L (X%(V*4294967296^j))),false,161⟩))\/
  (q=X%(V*4294967296^(j+1)) / 4294967296^j / V+1/\∃W,E.heap 199 [.one (.own 0 0 j (m+3)),.one (.p lv),.one (.p (.int .u64 (.ofNat q)))] (fc X V L N (j+1))=some (.one (.p (.bool true)),(fc X V L N (j+1)).set 0 ⟨false,0,1,Wm W,false,161⟩)/\
   E.heap 200 [.one (.own 0 0 j (m+3)),.one (.p lv)] ((fc X V L N (j+1)).set 0 ⟨false,0,1,Wm W,false,161⟩)=some (.XY [],(fc X V L N (j+1)).set 0 ⟨false,0,1,Wm (dg L (X%(V*4294967296^j))),false,161⟩)))
theorem Bq {B:Xr}(o:Std B){C:PL}{X V L m N j:Nat}(S:L=N+(m+3))(T:N<1000000000)(Z:m<1000000000)(W:j<N+1)(v:aY C V)(A:pK V (m+2))(f:0<V)(h:(Xd V).length=m+2):X0 B fun E _=>lX E C X V L m N j:=by
 have c:=A.2;have d:V<4294967296^(m+3):=YB c (Nat.pow_lt_pow_right (by decide) (Nat.lt_succ_self _));obtain⟨F,t,u⟩:=bM (X:=X) (V:=V) (L:=L) (N:=N) (n:=m+2) (j:=j) (by omega) f c;unfold lX;obtain⟨U,x⟩:∃U,U=X%(V*4294967296^(j+1)) / 4294967296^j:=⟨_,rfl⟩;obtain⟨a,y⟩:∃a,a=dg j (X%(V*4294967296^(j+1))):=⟨_,rfl⟩;have e:a.length=j:=by rw[y,Wd]
 rw[<-x,<-y]at F t;rw[<-x]at u⊢;have p:U<4294967296^(m+3):=by
  have:=Yl c (show 0<4294967296 by decide);rw[<-ZJ]at this;exact YB u this
 have J:(fc X V L N (j+1))[0]? =some ⟨false,0,1,Wm (a++(dg (m+3) U++List.replicate (N-j) 0)),false,161⟩:=by
  show some (Xz.mk false 0 1 (Wm (dg L (X%(V*4294967296^(j+1))))) false 161)=_;rw[F]
 obtain⟨q,z,G,Q,R⟩:=vS o (lu:=.Xv (Ug (dg (m+3) U))) .Xv v h (by omega) A u (fun i s=>by
  have :Xd V=dg (m+2) V:=Tu (Xn V) h (Xj V);rw[this,bS s]) (fun i s=>bS s)
 obtain⟨Y,b,k,M,O,P⟩:=qW o (H:=fc X V L N (j+1)) (iu:=0) (n:=m+2) e (by omega) f c v p G J;have I:=ZS U f;rcases Yy q (U / V+1)with hc|hc
 ·have g:q=U / V:=by omega
  obtain⟨l,w⟩:=O g;rw[l,w,<-t]at k;refine(z.Xi.and k.Xi).mono fun E K ⟨e1,e2⟩=>⟨q,e1,.inl ⟨g,?_⟩⟩
  exact e2
 ·have g:q=U / V+1:=by omega
  obtain⟨l,w⟩:=P g;rw[l]at k;have r:((fc X V L N (j+1)).set 0 ⟨false,0,1,Wm (a++(dg (m+2+1) Y++List.replicate (N-j) 0)),false,161⟩)[0]? =some ⟨false,0,1,Wm (a++(dg (m+3) Y++List.replicate (N-j) 0)),false,161⟩:=rfl;have D:=nj o e (show m+3<100000000000 by omega) d v M (YB I d) w r;rw[<-t,List.set_set]at D;exact(z.Xi.and (k.Xi.and D.Xi)).mono fun E K ⟨e1,e2,e3⟩=>⟨q,e1,.inr ⟨g,_,e2,e3⟩⟩
theorem sJ {E:Xb}{K:Nat}{Y:PL}{X V L m N d:Nat}(hL:L=N+(m+3))(hN:N<1000000000)(hm:m<1000000000)(f:E.mode=md)(s:0<V)(t:V<4294967296^(m+2))
  (T:∀j,j<N+1->lX E Y X V L m N j):
  ∀(i:Nat),i<=N+1->∀k,i<k->∃g,Xc E K 0 [8,9,10,11,12,13] x172_1 k ⟨[(8,.one (.p (.int .i64 (.ofNat (m+2))))),(9,.one (.p (.int .u64 (.ofNat d)))),(10,.one (.p Y)),(11,.one (.own 0 0 0 L)),(12,.one (.own 1 0 0 (N+1))),(13,.one (.p (.int .i64 (pI i))))],fc X V L N i⟩=some (.exit 0,⟨g,fc X V L N 0⟩)/\
   Xh g 9=some (.one (.p (.int .u64 (.ofNat d))))/\Xh g 11=some (.one (.own 0 0 0 L))/\Xh g 12=some (.one (.own 1 0 0 (N+1)))
 |_,_,0,h=>by omega
 |0,_,k+1,_=>by
  apply VM
  ·obtain⟨Z,lK,oD,oS,oR,dS,dD,e1,e2,e3,e4,e5,e6,e7,e,R⟩:=T7;rw[<-e2,e];simp only[Tj,R,Xq,reduceIte,Nat.reduceEqDiff,x172_1,dT];rfl
  ·simp only[Xp,reduceIte,Nat.reduceEqDiff,and_self]
 |j+1,hj,k+1,hk=>by
  obtain⟨g,w,g2⟩:=sJ (K:=K) hL hN hm f s t T j (by omega) k (by omega);refine⟨g,?_,g2⟩;obtain⟨y,-,z⟩:=bM (X:=X) (V:=V) (L:=L) (N:=N) (n:=m+2) (j:=j) (by omega) s t;obtain⟨q,x,c⟩:=T j (by omega);have a:=jh (X:=X) (V:=V) (N:=N) (j:=j) (by omega);obtain⟨U,B⟩:∃U,U=X%(V*4294967296^(j+1)) / 4294967296^j:=⟨_,rfl⟩;rw[<-B]at x c a y z;obtain⟨Q,u⟩:∃Q,Q=U / V:=⟨_,rfl⟩;have hQ:Q<4294967296:=by rw[u];exact Yj z
  rw[<-u]at c a;have C:Xe .i64 (.ofNat (j+(m+2)))=.ofNat (j+(m+2)):=wrap_i64 (by omega);have F:Xe .i64 (.ofNat (j+(m+2)+1))=.ofNat (j+(m+2)+1):=wrap_i64 (by omega);have G:Xe .i64 (.ofNat j-.ofNat 1)=pI j:=Uo (by omega);have S:(fc X V L N (j+1))[0]? =some ⟨false,0,1,Wm (dg L (X%(V*4294967296^(j+1)))),false,161⟩:=rfl;have H:WH 1 (Xl (fc X V L N (j+1))) (.own 0 0 0 L) j (some (j+(m+2)+1))=some (.own 0 0 j (m+3),[0]):=by
   rw[OF (b:=⟨false,0,1,Wm (dg L (X%(V*4294967296^(j+1)))),false,161⟩) rfl (by omega) (by omega) rfl,Z4,show j+(m+2)+1-j=m+3 by omega]
  have P:((Wm (dg L (X%(V*4294967296^(j+1))))).drop j).take (m+3)=Wm (dg (m+3) U):=by
   rw[y,mj,List.drop_left' (Wd _ _),mi,List.take_left' (Wd _ _)]
  have l:j+(m+3)<=L:=by omega
  have I:((fc X V L N (j+1)).set 0 ⟨false,0,1,Wm (dg L (X%(V*4294967296^j))),false,161⟩)[1]? =some ⟨false,0,1,Wm (List.replicate (j+1) 0++dg (N-j) (X / (V*4294967296^(j+1)))),false,161⟩:=by
   show some (Xz.mk false 0 1 (Wm (List.replicate (j+1) 0++dg (N+1-(j+1)) (X / (V*4294967296^(j+1))))) false 161)=_;rw[Nat.add_sub_add_right]
  have J:=X5 (ea 0 j (dg (N-j) (X / (V*4294967296^(j+1)))));have M:((fc X V L N (j+1)).set 0 ⟨false,0,1,Wm (dg L (X%(V*4294967296^j))),false,161⟩).set 1 ⟨false,0,1,Wm (List.replicate j 0++dg (N+1-j) (X / (V*4294967296^j))),false,161⟩=fc X V L N j:=rfl;have O:j<N+1:=by omega
  have o:Q%4294967296=Q:=Zf hQ;have v:Xe .u64 (.ofNat (Q+1)-.ofNat 1)=.ofNat Q:=by rw[TK (by omega),wrap_u64,Yb,Zf (by omega)]
  have r:=Wd L (X%(V*4294967296^(j+1)));generalize dg L (X%(V*4294967296^(j+1)))=A at *;generalize fc X V L N (j+1)=D at *;generalize (D.set 0 ⟨false,0,1,Wm (dg L (X%(V*4294967296^j))),false,161⟩)=D1 at *;generalize fc X V L N j=D2 at *;generalize fc X V L N 0=D3 at *;generalize dg (N-j) (X / (V*4294967296^(j+1)))=l1 at *;generalize dg (N+1-j) (X / (V*4294967296^j))=l2 at *;clear B u y z;obtain⟨Z,lK,oD,oS,oR,dS,dD,e1,e2,e3,e4,e5,e6,e7,e,R⟩:=T7;rw[<-e2]at w⊢;rw[e];rcases c with⟨rfl,c⟩|⟨rfl,W,c,h3⟩
  ·simp only[Tj,R,WR,Xq,reduceIte,Nat.reduceEqDiff,Nat.reduceLeDiff,Zs,x172_1,ai,f,XW,x,c,C,F,G,H,I,J,O,P,l,o,r,S,Vb,V4,Ul,WG,OG,a,M];exact w
  ·simp only[Tj,R,WR,Xq,reduceIte,Nat.reduceEqDiff,Nat.reduceLeDiff,Zs,x172_1,ai,f,XW,x,c,h3,C,F,G,H,I,J,O,P,l,o,v,r,S,Vb,V4,Ul,WG,OG,a,M];exact w
theorem dh {B:Xr}(a:Std B){la lb:PL}{x y:Nat}(D:aY la x)(l:aY lb y)(hx:(Xd x).length<100000000)(hy:(Xd y).length<100000000)(C:0<y):
  ∃q r,Xs B 172 [.one la,.one lb] (.XY [.one q,.one r])/\aY q (x / y)/\aY r (x%y):=by
 have G:=aN a D l (Xn _) (Xn _) (Ws _) (Ws _) (by omega) (by omega);rw[Xj,Xj]at G;by_cases c:x<y
 ·refine⟨.XJ,la,Xs.of (a.X6 _ _ rfl) ((G.Xi.and a.Xi).mono fun E K ⟨e3,e⟩=> ?_),?_,?_⟩
  ·simp only[Xp,Xq,reduceIte,Nat.reduceEqDiff,Nat.reduceLeDiff,x172,e,XW,e3,SQ,c]
  ·rw[YJ c];exact aY.zero
  ·rw[Zf c];exact D
 by_cases h1:(Xd y).length=1
 ·obtain⟨k1,H⟩:=Sf.1 h1;have hi:(Xd y)[0]? =some y:=by rw[RY k1 H];rfl
  have hd:=eX a D (Xn _) (by omega) k1 H;rw[Xj]at hd;have a7:=ZS x C;have hw:=Rz a (m:=x%y) (by omega);have O:y%18446744073709551616=y:=Zf (by omega);refine⟨_,_,Xs.of (a.X6 _ _ rfl) ((G.Xi.and (hd.Xi.and (hw.Xi.and a.Xi))).mono fun E K ⟨e3,L,M,e⟩=> ?_),.Xv,.Xv⟩;simp only[Xp,Xq,reduceIte,Nat.reduceEqDiff,Nat.reduceLeDiff,x172,e,XW,e3,L,M,SQ,c,l.len,h1,l.idx hi,O]
 have b2:2<=(Xd y).length:=by
  have :(Xd y).length≠0:=by rw[Ne,WU];omega
  omega
 obtain⟨m,Z⟩:∃m,(Xd y).length=m+2:=⟨(Xd y).length-2,by omega⟩;obtain⟨t1,t2,t3,t4⟩:=mG (n:=m+1) Z;obtain⟨w,ew⟩:∃w,w=y / 4294967296^(m+1):=⟨_,rfl⟩;rw[<-ew]at t1 t2 t3;obtain⟨d,ed⟩:∃d,d=4294967296 / (w+1):=⟨_,rfl⟩;obtain⟨T,b,z⟩:=yM ew t2 t3 ed;have b1:=XM (Nat.le_of_not_lt c);obtain⟨N,eN⟩:∃N,(Xd x).length=N+(m+2):=⟨(Xd x).length-(m+2),by omega⟩;obtain⟨V,f⟩:∃V,V=y*d:=⟨_,rfl⟩;obtain⟨X,o⟩:∃X,X=x*d:=⟨_,rfl⟩;have g:0<V:=by rw[f];exact Nat.mul_pos C b
 rw[<-f]at T;have i:=T.2;have k:=Te x;rw[eN]at k;have t:X<V*4294967296^(N+1):=by
  have I:X<4294967296^(N+(m+2))*d:=by rw[o];exact Yl k b
  have F:=Zo (d*4294967296^(N+1)) t4;have a4:4294967296^(m+1)*(d*4294967296^(N+1))=4294967296^(N+(m+2))*d:=by
   rw[Nat.mul_left_comm,<-Nat.pow_add,show m+1+(N+1)=N+(m+2)by omega,ZK]
  rw[a4,<-Yr,<-f]at F;exact ZW I F
 have U:X<4294967296^(N+(m+2)+1):=by
  rw[o,ZJ];exact YY k z
 have a5:(Xd V).length=m+2:=by
  have a1:=Vc i;have I:y<=V:=by rw[f];exact Nat.le_mul_of_pos_right _ b
  have F:=XM I;rw[Z]at F;omega
 have A:X / V=x / y:=by rw[o,f,Nat.mul_div_mul_right _ _ b]
 have a0:X%V / d=x%y:=by rw[o,f,Nat.mul_mod_mul_right,Nat.mul_div_cancel _ b]
 have u:X%V<4294967296^(m+2):=YB (ZS _ g) i;have v:X%V<4294967296^(N+(m+2)+1):=ZW u (Vj (by omega));have a6:=Rz a (m:=d) (by omega);have a9:(Xd d).length<=2:=RZ (by omega);have c1:=bk a l (lb:=.Xv (Ug (Xd d))) .Xv (Xn _) (Xn _) (by omega);have c2:=bk a D (lb:=.Xv (Ug (Xd d))) .Xv (Xn _) (Xn _) (by omega);rw[Xj,Xj,<-f]at c1;rw[Xj,Xj,<-o]at c2;have c3:X0 B fun E _=>∀j,j<N+1->lX E (.Xv (Ug (Xd V))) X V (N+(m+3)) m N j:=X0.all (N+1) fun j hj=>Bq a rfl (by omega) (by omega) hj .Xv T g a5
 have c4:=Sj a (ws:=dg (N+1) (x / y)) (by rw[Wd];omega);rw[TI (by rw[<-A];exact Yj t)]at c4;have c5:=Sj a (ws:=dg (N+(m+2)+1) (X%V)) (by rw[Wd];omega);rw[TI v]at c5;have c6:=eX a (la:=.Xv (Ug (Xd (X%V)))) .Xv (Xn _) (by have:=Vc u;omega) b z;rw[Xj,a0]at c6;refine⟨_,_,Xs.of (a.X6 _ _ rfl) ((G.Xi.and (a6.Xi.and (c1.Xi.and (c2.Xi.and (c3.and (c4.Xi.and (c5.Xi.and (c6.Xi.and (a.Xi.and (X0.ge (N+2))))))))))).mono fun E K ⟨e3,L,M,e6,e7,e8,e9,J,e,hK⟩=> ?_),.Xv,.Xv⟩;obtain⟨T',s,g2,g3,g4⟩:=sJ (K:=K) (d:=d) rfl (by omega) (by omega) e g i e7 (N+1) (Zh _) K (by omega);have d1:fc X V (N+(m+3)) N (N+1)=[⟨false,0,1,Wm (dg (N+(m+2)+1) X),false,161⟩,⟨false,0,1,Wm (List.replicate (N+1) 0),false,161⟩]:=by
  unfold fc;rw[Zf t,YM,show dg 0 (X / (V*4294967296^(N+1)))=[]from rfl,ZN];rfl
 have d2:fc X V (N+(m+3)) N 0=[⟨false,0,1,Wm (dg (N+(m+3)) (X%V)),false,161⟩,⟨false,0,1,Wm (dg (N+1) (X / V)),false,161⟩]:=by
  unfold fc;rw[Nat.pow_zero,Yf];rfl
 rw[d1,d2,A]at s;have f6:(Int.ofNat N:Int)=pI (N+1):=rfl;rw[<-f6]at s;have z1:N+(m+3)=N+(m+2)+1:=rfl;rw[z1]at s g3;have O:Xe .i64 (.ofNat (m+2)-.ofNat 1)=.ofNat (m+1):=by rw[Wh (by omega) (by omega)];rfl
 have f2:Xe .i64 (.ofNat (N+(m+2))-.ofNat (m+2))=.ofNat N:=by rw[Wh (by omega) (by omega),Yb]
 have f3:Xe .i64 (.ofNat (N+1))=.ofNat (N+1):=wrap_i64 (by omega);have f4:4*(N+1)<=lim:=by unfold lim;omega
 have f5:N+1<=9223372036854775807:=by omega
 have f7:Xe .i64 (.ofNat (N+(m+2)+1))=.ofNat (N+(m+2)+1):=wrap_i64 (by omega);have f8:4*(N+(m+2)+1)<=lim:=by unfold lim;omega
 have f9:N+(m+2)+1<=9223372036854775807:=by omega
 have P:w%18446744073709551616=w:=Zf (by omega);have Q:(w+1)%18446744073709551616=w+1:=Zf (by omega);have S:Tx .u64 (.ofNat 4294967296) (.ofNat (w+1))=some (.p (.int .u64 (.ofNat d))):=by
  show some (DL.p (.int .u64 (Xe .u64 (.ofNat (4294967296 / (w+1))))))=_;rw[<-ed,wrap_u64,Zf (by omega)]
 have n1:¬m+2=1:=by omega
 have Y:Oq 0 1 0 0 0 (N+(m+2)+1) ⟨false,0,1,Wm (List.replicate (N+(m+2)+1) 0),false,161⟩ (Wm (Xd X)) []=some ⟨.one (.p (.int .i64 (.ofNat (Nat.min (N+(m+2)+1) (Wm (Xd X)).length)))),[],[(0,⟨false,0,1,Wm (dg (N+(m+2)+1) X),false,161⟩)],[0]⟩:=by
  have b0:=Vc U;have e1:dg (N+(m+2)+1) X=Xd X++List.replicate (N+(m+2)+1-(Xd X).length) 0:=by
   refine(Tu (fun q hq=> ?_) (by simp;omega) ?_).symm
   ·rcases ZV.1 hq with h|h
    ·exact Xn X q h
    ·exact WB.replicate _ q h
   ·rw[Q1,Xj,VV,Nat.mul_zero,Z3]
  have e2:(Wm (List.replicate (N+(m+2)+1) 0)).length=N+(m+2)+1:=by rw[Vb];simp
  simp only[Oq,e2,uh,Z4,Qf (Zh _),Bool.not_false,Bool.and_true,cond_true,List.take_zero,ZO,show Nat.beq 0 0=true from rfl,show Nat.beq 1 1=true from rfl,Bool.true_or];rw[show(Wm (Xd X)).take (N+(m+2)+1)=Wm (Xd X)from Zb (by rw[Vb];omega),Vb,show Nat.min (N+(m+2)+1) (Xd X).length=(Xd X).length from Nat.min_eq_right (by omega),mj,List.drop_replicate,e1];simp[Wm]
 have W:∀h,Wt h (.p (.Xv (Ug (Xd X))))=some (Wm (Xd X),[]):=fun h=>by
  show some ((Ug (Xd X)).map (·.map DL.p),[])=_;rw[rY]
 obtain⟨cE,lK,oD,oS,oR,dS,dD,k1,H,k3,k4,k5,k6,k7,a8,R⟩:=T7;rw[<-H]at s;simp(decide:=true)only[Tj,R,WR,Xq,reduceIte,Nat.reduceAdd,x172,e,XW,e3,L,M,e6,e8,e9,J,SQ,c,D.len,l.len,Z,eN,l.idx t1,O,f2,f3,f4,f5,f7,f8,f9,P,Q,S,n1,W,Y,Zh,UW,s,g2,g3,g4,Vb,Wd,V4,Ul,U2 _ (YN (Wd (N+1) (x / y))),U2 _ (YN (Wd (N+(m+2)+1) (X%V)))]
def ic (z:Int):Prop:=(Xd z.natAbs).length<100000000
theorem ic.sm {z:Int}(h:ic z):Sm z:=by unfold ic at h;unfold Sm;omega
theorem oZ {B:Xr}(d:Std B):∀(y x:Nat) (u v:PL),aY u x->aY v y->(Xd x).length<100000000->(Xd y).length<100000000->
  ∃(g:Bool) (r:PL),aY r (Nat.gcd x y)/\X0 B fun E K=>∀(k:Nat),y<k->
   ∃j,Xc E K 0 [0,1] x143_1 k ⟨[(0,.one (.p u)),(1,.one (.p v))],[]⟩=
    (bif g then some (.ret,⟨j,[]⟩)else some (.exit 0,⟨j,[]⟩))/\(g=true->Xh j 4=some (.one (.p r)))/\(g=false->Xh j 0=some (.one (.p r))):=by
 intro y;induction y using Nat.strongRecOn with
 |ind y ih=>
  intro x u v l i hx A;rcases Z8 y with h0|h0
  ·subst h0;refine⟨false,u,by rw[Nat.gcd_zero_right];exact l,X0.of fun K n k H=> ?_⟩;obtain⟨k,rfl⟩:∃o,k=o+1:=⟨k-1,by omega⟩;have c:=i.len;rw[WT]at c;apply VM
   ·obtain⟨D,S,T,V,U,G,F,L,s,M,N,O,P,Q,a,R⟩:=T7;rw[<-s,a];simp only[Tj,R,Xq,reduceIte,Nat.reduceEqDiff,x143_1,c,Zv];rfl
   ·simp only[Xp,reduceIte,Nat.reduceEqDiff,forall_const,Zz,false_implies,and_self]
  have f:0<(Xd y).length:=by
   have :(Xd y).length≠0:=by rw[Ne,WU];omega
   omega
  by_cases e:(Xd x).length<=2/\(Xd y).length<=2
  ·have W:=cK d l (Xn x) e.1;have X:=cK d i (Xn y) e.2;rw[Xj]at W X;have Y:=FK e.1;have m:=FK e.2;have hg:Nat.gcd x y<18446744073709551616:=Z5 (Nat.gcd_le_right x h0) m;have v3:=nh d Y m;have v4:=Rz d hg;have t:=e.1;have C:=e.2;refine⟨true,.Xv (Ug (Xd (Nat.gcd x y))),.Xv,(W.Xi.and (X.Xi.and (v3.Xi.and (v4.Xi.and d.Xi)))).mono fun E K ⟨e1,e2,e3,e4,b⟩ k H=> ?_⟩;obtain⟨k,rfl⟩:∃o,k=o+1:=⟨k-1,by omega⟩;apply VM
   ·obtain⟨D,S,T,V,U,G,F,L,s,M,N,O,P,Q,a,R⟩:=T7;rw[<-s,a];simp only[Tj,R,Xq,reduceIte,Nat.reduceEqDiff,x143_1,l.len,i.len,f,t,C,b,XW,e1,e2,e3,e4];rfl
   ·simp only[Xp,reduceIte,Nat.reduceEqDiff,Bool.true_eq_false,false_implies,forall_const,and_self]
  ·obtain⟨q,r,Z,d2,d3⟩:=dh d l i hx A h0;have I:=ZS x h0;have z:(Xd (x%y)).length<100000000:=Z5 (XM (Nat.le_of_lt I)) A;obtain⟨rt,r2,J,i3⟩:=ih (x%y) I y v r i d3 A z;have eg:Nat.gcd x y=Nat.gcd y (x%y):=by rw[Nat.gcd_comm,Nat.gcd_rec,Nat.gcd_comm]
   rw[<-eg]at J;refine⟨rt,r2,J,(Z.Xi.and (i3.and d.Xi)).mono fun E K ⟨e1,e2,b⟩ k H=> ?_⟩;obtain⟨k,rfl⟩:∃o,k=o+1:=⟨k-1,by omega⟩;obtain⟨j,w,g2⟩:=e2 k (by omega);refine⟨j,?_,g2⟩;obtain⟨D,S,T,V,U,G,F,L,s,M,N,O,P,Q,a,R⟩:=T7;rw[<-s]at w⊢;rw[a];by_cases t:(Xd x).length<=2
   ·have C:¬(Xd y).length<=2:=fun h=>e ⟨t,h⟩
    simp only[Tj,R,Xq,reduceIte,Nat.reduceEqDiff,x143_1,l.len,i.len,f,t,C,b,XW,e1];exact w
   ·simp only[Tj,R,Xq,reduceIte,Nat.reduceEqDiff,x143_1,l.len,i.len,f,t,b,XW,e1];exact w
theorem xT {B:Xr}(a:Std B){c d:List PL}{x y:Int}(u:UB c x)(v:UB d y)(o:ic x)(p:ic y):∃e,Xs B 116 [.agg c,.agg d] (.agg e)/\UB e (Nat.gcd x.natAbs y.natAbs):=by
 obtain⟨m,rfl,w⟩:=u;obtain⟨n,rfl,A⟩:=v;unfold ic at o p;obtain⟨G,r,C,D⟩:=oZ a y.natAbs x.natAbs m n w A o p;have j:(Xd (Nat.gcd x.natAbs y.natAbs)).length<1000000000000:=by
  rcases Z8 y.natAbs with h|h
  ·rw[h,Nat.gcd_zero_right];omega
  ·have:=XM (Nat.gcd_le_right x.natAbs h);omega
 have q:Xs B 143 [.one m,.one n] (.one r):=by
  refine Xs.of (a.X6 _ _ rfl) ((D.and (a.Xi.and (X0.ge (y.natAbs+1)))).mono fun E K ⟨e1,z,M⟩=> ?_);obtain⟨H,b,g,i⟩:=e1 K (by omega);obtain⟨I,U,V,X,W,L,J,N,F,O,P,Q,S,T,t,R⟩:=T7;rw[<-F]at b;cases G with
  |true=>
   replace g:=g rfl
   rw[cond_true]at b;simp only[Tj,R,Xq,reduceIte,Nat.reduceEqDiff,Nat.reduceLeDiff,x143,b,g]
  |false=>
   replace i:=i rfl
   rw[cond_false]at b;simp only[Tj,R,Xq,reduceIte,Nat.reduceEqDiff,Nat.reduceLeDiff,x143,b,i]
 obtain⟨e,s,f⟩:=VP a false C (Xn _) j;rw[Xj]at f
 replace f:UB e (Nat.gcd x.natAbs y.natAbs):=by simpa using f
 refine⟨e,Xs.of (a.X6 _ _ rfl) ((q.Xi.and (s.Xi.and a.Xi)).mono fun E K ⟨e1,e2,k⟩=> ?_),f⟩;obtain⟨l,rfl,-⟩:=f;simp(decide:=true)only[Xp,Xq,reduceIte,Nat.reduceAdd,x116,k,XW,e1,e2]
theorem wK {B:Xr}(a:Std B){l:PL}{x:Nat}(s:aY l x)(b:(Xd x).length<100000000):Xs B 146 [.one l,.one (.Xv [[.int .u32 (.ofNat 1)]])] (.one (.Xv (Ug (Xd (x+1))))):=by
 have h:=j8 a s (lb:=.Xv (Ug [1])) .Xv (Xn x) (WB.mk (by decide) WB.nil) (by omega) (by decide);rw[Xj]at h;exact h
theorem np {B:Xr}(b:Std B){c d:List PL}{x y:Int}(V:UB c x)(W:UB d y)(G:ic x)(H:ic y)(I:y≠0):∃e f,Xs B 173 [.agg c,.agg d] (.XY [.agg e,.agg f,.one (.int .i64 (.ofNat 0))])/\UB e (x / y)/\UB f (x%y):=by
 obtain⟨m,rfl,X⟩:=V;obtain⟨n,rfl,t⟩:=W;unfold ic at G H;have u:0<y.natAbs:=by omega
 have o:(Xd y.natAbs).length≠0:=by rw[Ne,WU];omega
 obtain⟨q,r,L,M,z⟩:=dh b X t G H u;obtain⟨e1,e2⟩:=df x I;have N:=ZS x.natAbs u;have lq:(Xd (x.natAbs / y.natAbs)).length<100000000:=Z5 (XM (Nat.div_le_self ..)) G;have lr:(Xd (x.natAbs%y.natAbs)).length<100000000:=Z5 (XM (Nat.le_of_lt N)) H;by_cases g:x<0/\0<x.natAbs%y.natAbs
 ·have s1:=wK b M lq;have O:=bl b t z (Xn _) (Xn _) (XM (Nat.le_of_lt N)) (by omega) (by rw[Xj,Xj];omega);rw[Xj,Xj]at O;simp only[if_pos g]at e1 e2;have l1:(Xd (x.natAbs / y.natAbs+1)).length<1000000000000:=by
   have:=Uu (x.natAbs / y.natAbs) 1;rw[Sf.2 (by decide:0<1/\1<4294967296)]at this;omega
  have l2:(Xd (y.natAbs-x.natAbs%y.natAbs)).length<1000000000000:=by
   have:=XM (Nat.sub_le y.natAbs (x.natAbs%y.natAbs));omega
  obtain⟨e,C,h⟩:=VP b (decide (x<0)!=decide (y<0)) (l:=.Xv (Ug (Xd (x.natAbs / y.natAbs+1)))) .Xv (Xn _) l1;obtain⟨f,D,a⟩:=VP b false (l:=.Xv (Ug (Xd (y.natAbs-x.natAbs%y.natAbs)))) .Xv (Xn _) l2;rw[Xj]at h a;rw[<-e1]at h
  replace a:UB f (x%y):=by rw[e2];simpa using a
  have p:((decide (x<0)==decide (y<0))!=true)=(decide (x<0)!=decide (y<0)):=by cases decide (x<0)<;>cases decide (y<0)<;>rfl
  obtain⟨z1,z2,A⟩:=h.len;obtain⟨z3,z4,k⟩:=a.len;subst A k;have s:=g.1;have J:0<(Xd (x.natAbs%y.natAbs)).length:=by
   have :(Xd (x.natAbs%y.natAbs)).length≠0:=by rw[Ne,WU];omega
   omega
  refine⟨_,_,Xs.of (b.X6 _ _ rfl) ((L.Xi.and (s1.Xi.and (O.Xi.and (C.Xi.and (D.Xi.and b.Xi))))).mono fun E K ⟨v,P,Q,j,w,i⟩=> ?_),h,a⟩;simp only[s,decide_true]at j p;obtain⟨S,lK,oD,oS,oR,U,T,Y,Z,k3,k4,k5,k6,k7,F,R⟩:=T7;simp(decide:=true)only[Tj,R,Xq,reduceIte,Nat.reduceAdd,x173,i,XW,v,P,Q,j,w,t.len,o,s,J,z.len,p]
 ·obtain⟨e,C,h⟩:=VP b (decide (x<0)!=decide (y<0)) M (Xn _) (by omega);obtain⟨f,D,a⟩:=VP b false z (Xn _) (by omega);simp only[if_neg g]at e1 e2;rw[Xj]at h a;rw[<-e1]at h
  replace a:UB f (x%y):=by rw[e2];simpa using a
  have p:((decide (x<0)==decide (y<0))!=true)=(decide (x<0)!=decide (y<0)):=by cases decide (x<0)<;>cases decide (y<0)<;>rfl
  obtain⟨z1,z2,A⟩:=h.len;obtain⟨z3,z4,k⟩:=a.len;subst A k;refine⟨_,_,Xs.of (b.X6 _ _ rfl) ((L.Xi.and (C.Xi.and (D.Xi.and b.Xi))).mono fun E K ⟨v,j,w,i⟩=> ?_),h,a⟩;obtain⟨S,lK,oD,oS,oR,U,T,Y,Z,k3,k4,k5,k6,k7,F,R⟩:=T7;by_cases s:x<0
  ·have J:¬0<(Xd (x.natAbs%y.natAbs)).length:=by
    have :(Xd (x.natAbs%y.natAbs)).length=0:=by rw[WU];omega
    omega
   simp only[s,decide_true]at j p;simp(decide:=true)only[Tj,R,Xq,reduceIte,Nat.reduceAdd,x173,i,XW,v,j,w,t.len,o,s,J,z.len,p]
  ·simp only[s,decide_false]at j p;simp(decide:=true)only[Tj,R,Xq,reduceIte,Nat.reduceAdd,x173,i,XW,v,j,w,t.len,o,s,p]
theorem OW {B:Xr}(a:Std B){c d:List PL}{x y:Int}(i:UB c x)(j:UB d y)(r:ic x)(s:ic y)(g:y≠0):∃e,Xs B 145 [.agg c,.agg d] (.agg e)/\UB e (x / y):=by
 obtain⟨e,f,p,h,q⟩:=np a i j r s g;obtain⟨t,u,l⟩:=i.len;obtain⟨v,w,m⟩:=j.len;obtain⟨e1,e2,n⟩:=h.len;obtain⟨z,A,o⟩:=q.len;subst l m n o;refine⟨_,Xs.of (a.X6 _ _ rfl) ((p.Xi.and a.Xi).mono fun E K ⟨k,b⟩=> ?_),h⟩;simp(decide:=true)only[Xp,Xq,reduceIte,Nat.reduceAdd,x145,b,XW,k]
theorem kn {a b:Nat}{k:Nat}(c:0<b)(h:(Xd b).length<k):(Xd (Nat.gcd a b)).length<k:=Z5 (XM (Nat.gcd_le_right a c)) h
theorem PY {B:Xr}(a:Std B){c d:List PL}{n k:Int}(t:UB c n)(p:UB d k)(C:ic n)(q:ic k)(h:k≠0):∃e,Xs B 117 [.agg c,.agg d] (.agg e)/\RX e (Rat.divInt n k):=by
 obtain⟨g,L,u⟩:=xT a t p C q;have s:=bD a p;have r:0<k.natAbs:=by omega
 have b:ic (Nat.gcd n.natAbs k.natAbs:Nat):=by unfold ic at q⊢;rw[ZY];exact kn r q
 have S:0<Nat.gcd n.natAbs k.natAbs:=Nat.gcd_pos_of_pos_right _ r;have N:((Nat.gcd n.natAbs k.natAbs:Nat):Int) ∣ n:=Int.ofNat_dvd_left.2 (Nat.gcd_dvd_left ..);have M:((Nat.gcd n.natAbs k.natAbs:Nat):Int) ∣ k:=Int.ofNat_dvd_left.2 (Nat.gcd_dvd_right ..);have J:(Rat.divInt n k).num=k.sign*n / ((Nat.gcd n.natAbs k.natAbs:Nat):Int):=by
  rw[Rat.num_divInt];congr 2;exact Nat.gcd_comm ..
 have I:((Rat.divInt n k).den:Int)=(k.natAbs:Int) / ((Nat.gcd n.natAbs k.natAbs:Nat):Int):=by
  rw[Rat.den_divInt,if_neg h,<-Int.natCast_ediv];congr 2;exact Nat.gcd_comm ..
 obtain⟨T,U,F⟩:=t.len;obtain⟨V,W,G⟩:=p.len;obtain⟨Y,Z,H⟩:=u.len;rcases Int.lt_or_lt_of_ne h with hs|hs
 ·obtain⟨X,R,m⟩:=xM a u b.sm;have i:ic (-((Nat.gcd n.natAbs k.natAbs:Nat):Int)):=by unfold ic at b⊢;rw[Int.natAbs_neg];exact b
  obtain⟨e,z,j⟩:=OW a t m C i (by omega);obtain⟨f,A,l⟩:=OW a p m q i (by omega);rw[show n / -((Nat.gcd n.natAbs k.natAbs:Nat):Int)=(Rat.divInt n k).num by rw[J,Int.sign_eq_neg_one_of_neg hs,Int.neg_mul,Int.one_mul,Int.ediv_neg,Int.neg_ediv_of_dvd N]]at j;rw[show k / -((Nat.gcd n.natAbs k.natAbs:Nat):Int)=((Rat.divInt n k).den:Int)by rw[I,show(k.natAbs:Int)= -k by omega,Int.ediv_neg,Int.neg_ediv_of_dvd M]]at l;obtain⟨e1,e2,w⟩:=j.len;obtain⟨P,Q,x⟩:=l.len;obtain⟨g3,g4,y⟩:=m.len;subst F G H w x y;have D:eT k=.negSucc 0:=by unfold eT;rw[if_neg h,if_pos hs]
  rw[D]at s;refine⟨_,Xs.of (a.X6 _ _ rfl) ((L.Xi.and (s.Xi.and (z.Xi.and (A.Xi.and (R.Xi.and a.Xi))))).mono fun E K ⟨e1,e2,e3,v,O,o⟩=> ?_),⟨_,_,_,_,rfl,j,l⟩⟩;simp(decide:=true)only[Xp,Xq,reduceIte,Nat.reduceAdd,x117,o,XW,e1,e2,e3,v,O]
 ·obtain⟨e,z,j⟩:=OW a t u C b (by omega);obtain⟨f,A,l⟩:=OW a p u q b (by omega);rw[show n / ((Nat.gcd n.natAbs k.natAbs:Nat):Int)=(Rat.divInt n k).num by rw[J,Int.sign_eq_one_of_pos hs,Int.one_mul]]at j;rw[show k / ((Nat.gcd n.natAbs k.natAbs:Nat):Int)=((Rat.divInt n k).den:Int)by rw[I,show(k.natAbs:Int)=k by omega]]at l;obtain⟨e1,e2,w⟩:=j.len;obtain⟨P,Q,x⟩:=l.len;subst F G H w x;have D:eT k=.ofNat 1:=by unfold eT;rw[if_neg h,if_neg (by omega)]
  rw[D]at s;refine⟨_,Xs.of (a.X6 _ _ rfl) ((L.Xi.and (s.Xi.and (z.Xi.and (A.Xi.and a.Xi)))).mono fun E K ⟨e1,e2,e3,v,o⟩=> ?_),⟨_,_,_,_,rfl,j,l⟩⟩;simp(decide:=true)only[Xp,Xq,reduceIte,Nat.reduceAdd,x117,o,XW,e1,e2,e3,v]
theorem Pj {x y:Int}{a b:Nat}(c:(Xd x.natAbs).length<a)(d:(Xd y.natAbs).length<b):(Xd (x*y).natAbs).length<a+b:=by
 rw[Yg];have:=Vq x.natAbs y.natAbs;omega
theorem Sq.vu {x:Rat}(h:Sq x):(Xd x.num.natAbs).length<10000000:=h.1
theorem Sq.oX {x:Rat}(h:Sq x):(Xd (x.den:Int).natAbs).length<10000000:=by rw[ZY];exact h.2
theorem eJ {x:Int}(h:(Xd x.natAbs).length<100000000):ic x:=h
theorem Dr {B:Xr}(a:Std B){c d:List PL}{x y:Rat}(L:RX c x)(M:RX d y)(b:Sq x)(f:Sq y):∃e,Xs B 75 [.agg c,.agg d] (.agg e)/\RX e (x+y):=by
 obtain⟨n1,X,n2,Y,rfl,i,g⟩:=L;obtain⟨n3,Z,n4,m4,rfl,j,h⟩:=M;obtain⟨p,G,n⟩:=RA a i h b.num f.den;obtain⟨q,H,o⟩:=RA a j g f.num b.den;obtain⟨r,I,t⟩:=RA a g h b.den f.den;have s1:=Pj b.vu f.oX;have s2:=Pj f.vu b.oX;have s3:=Pj b.oX f.oX;obtain⟨s,J,u⟩:=yi a n o (by unfold Sm;omega) (by unfold Sm;omega);have R:ic (x.num*y.den+y.num*x.den):=by
  unfold ic;have m:=XM (Int.natAbs_add_le (x.num*y.den) (y.num*x.den));have W:=Uu (x.num*y.den).natAbs (y.num*x.den).natAbs;omega
 have O:(x.den:Int)*y.den≠0:=Int.mul_ne_zero (by have:=x.den_nz;omega) (by have:=y.den_nz;omega);obtain⟨e,m,k⟩:=PY a u t R (eJ (by omega)) O;rw[<-Int.natCast_mul,Rat.divInt_ofNat,<-Rat.add_def']at k;obtain⟨p1,p2,A⟩:=n.len;obtain⟨q1,q2,C⟩:=o.len;obtain⟨r1,r2,D⟩:=t.len;obtain⟨P,Q,F⟩:=u.len;have l:=k;obtain⟨S,T,U,V,z,-,-⟩:=l;subst A C D F z;refine⟨_,Xs.of (a.X6 _ _ rfl) ((G.Xi.and (H.Xi.and (I.Xi.and (J.Xi.and (m.Xi.and a.Xi))))).mono fun E K ⟨e1,e2,e3,v,w,N⟩=> ?_),k⟩;simp(decide:=true)only[Xp,Xq,reduceIte,Nat.reduceAdd,x75,N,XW,e1,e2,e3,v,w]
theorem Dp {B:Xr}(a:Std B){c d:List PL}{x y:Rat}(z:RX c x)(A:RX d y)(b:Sq x)(f:Sq y):∃e,Xs B 121 [.agg c,.agg d] (.agg e)/\RX e (x*y):=by
 obtain⟨O,J,P,L,rfl,g,h⟩:=z;obtain⟨Q,M,R,N,rfl,i,j⟩:=A;obtain⟨p,u,m⟩:=RA a g i b.num f.num;obtain⟨r,v,n⟩:=RA a h j b.den f.den;have W:=Pj b.vu f.vu;have X:=Pj b.oX f.oX;have D:(x.den:Int)*y.den≠0:=Int.mul_ne_zero (by have:=x.den_nz;omega) (by have:=y.den_nz;omega);obtain⟨e,w,k⟩:=PY a m n (eJ (by omega)) (eJ (by omega)) D;rw[<-Int.natCast_mul,Rat.divInt_ofNat,<-Rat.mul_def']at k;obtain⟨S,T,s⟩:=m.len;obtain⟨U,V,t⟩:=n.len;have l:=k;obtain⟨F,G,H,I,q,-,-⟩:=l;subst s t q;refine⟨_,Xs.of (a.X6 _ _ rfl) ((u.Xi.and (v.Xi.and (w.Xi.and a.Xi))).mono fun E K ⟨e1,e3,o,C⟩=> ?_),k⟩;simp(decide:=true)only[Xp,Xq,reduceIte,Nat.reduceAdd,x121,C,XW,e1,e3,o]
theorem kK {B:Xr}(a:Std B){c:List PL}{x:Rat}(e:RX c x):Xs B 73 [.agg c] (.one (.int .i64 (eT x.num))):=by
 obtain⟨j,h,k,i,rfl,b,f⟩:=e;have d:=bD a b;refine Xs.of (a.X6 _ _ rfl) ((d.Xi.and a.Xi).mono fun E K ⟨e1,g⟩=> ?_);simp(decide:=true)only[Xp,Xq,reduceIte,Nat.reduceAdd,x73,g,XW,e1]
theorem Dn {B:Xr}(b:Std B){c d:List PL}{n k:Int}(h:UB c n)(f:UB d k)(s:ic n)(q:ic k)(a:k≠0):∃e,Xs B 127 [.agg c,.agg d] (.XY [.agg e,.one (.int .i64 (.ofNat 0))])/\RX e (Rat.divInt n k):=by
 obtain⟨e,o,i⟩:=PY b h f s q a;have p:=bD b f;have g:=i;obtain⟨u,v,w,x,m,-,-⟩:=g;obtain⟨y,z,j⟩:=h.len;obtain⟨A,C,l⟩:=f.len;subst j l m;have t:OX (eT k) (.ofNat 0)=false:=by
  unfold eT;rw[if_neg a];split<;>rfl
 refine⟨_,Xs.of (b.X6 _ _ rfl) ((o.Xi.and (p.Xi.and b.Xi)).mono fun E K ⟨e1,e2,r⟩=> ?_),i⟩;simp(decide:=true)only[Xp,Xq,reduceIte,Nat.reduceAdd,x127,r,XW,e1,e2,t]
theorem Dq {B:Xr}(a:Std B){c d:List PL}{x y:Rat}(C:RX c x)(D:RX d y)(b:Sq x)(f:Sq y)(h0:y≠0):∃e,Xs B 86 [.agg c,.agg d] (.XY [.agg e,.one (.int .i64 (.ofNat 0))])/\RX e (x / y):=by
 obtain⟨R,N,S,O,rfl,g,i⟩:=C;obtain⟨T,P,U,Q,rfl,j,k⟩:=D;have n:y.num≠0:=fun h=>h0 (Rat.num_eq_zero.1 h)
 obtain⟨p,w,o⟩:=RA a g k b.num f.den;obtain⟨r,z,q⟩:=RA a i j b.den f.num;have Z:=Pj b.vu f.oX;have s3:=Pj b.oX f.vu;have H:(x.den:Int)*y.num≠0:=Int.mul_ne_zero (by have:=x.den_nz;omega) n;obtain⟨e,A,l⟩:=Dn a o q (eJ (by omega)) (eJ (by omega)) H;have G:Rat.divInt (x.num*y.den) (x.den*y.num)=x / y:=by
  rw[Rat.div_def,Rat.inv_def,<-Rat.divInt_mul_divInt,Rat.num_divInt_den]
 rw[G]at l;obtain⟨V,W,u⟩:=o.len;obtain⟨X,Y,v⟩:=q.len;have m:=l;obtain⟨I,J,L,M,t,-,-⟩:=m;subst u v t;refine⟨_,Xs.of (a.X6 _ _ rfl) ((w.Xi.and (z.Xi.and (A.Xi.and a.Xi))).mono fun E K ⟨e1,e3,s,F⟩=> ?_),l⟩;simp(decide:=true)only[Xp,Xq,reduceIte,Nat.reduceAdd,x86,F,XW,e1,e3,s]
theorem N9 {B:Xr}(h:Std B){x:Int}(i:mg x):∃c,Xs B 37 [.one (.int .i64 x)] (.agg c)/\RX c (x:Rat):=by
 obtain⟨c,a,n,m,d,e,b,f,g⟩:=qy h i;exact⟨c,a,n,m,d,e,b,f,g⟩
end Go.Proofs.YtefpgecinlekpaaGreat
