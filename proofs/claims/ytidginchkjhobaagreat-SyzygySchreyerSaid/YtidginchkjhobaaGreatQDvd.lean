/- Division: divide, the rounds over the divisors. -/
import Derived.Test.YtidginchkjhobaaGreatQDvs
set_option maxHeartbeats 16000000
set_option maxRecDepth 100000
namespace Go.Proofs.YtidginchkjhobaaGreat
open Go.Ev Go.Num
theorem Wt {H:V'}{i:Nat}{b:Xx}(h:H[i]? =some b)(X:V'):(H++X)[i]? =some b:=by
 rw[ZA (Zf.1 h).1];exact h
theorem df {H:V'}{i:Nat}(h:i<H.length)(X:V')(b:Xx):(H++X).set i b=H.set i b++X:=List.set_append_left _ _ h
abbrev Tz:P':=[0,0,0,0,0,0,0,0]
theorem Da {E:Xa}{K k j n s:Nat}(o:E.mode=md){r:DL}{lp by_:PL}{d:I'}(t:Sl by_ d)(R:d.length<1000000){a b c e p q:PL}{m m2:P'}{S:Nat}(w:d[j]? =some (SL a b c e m2 p q S))(Q:m.length=8)(i:m2.length=8)
  (A:E.pure 62 [.agg (mo m),.agg (mo m2)]=some (.X9 [.agg (mo Tz),.one (.bool false)])) {x y z u:PL} {H:V'} (g:H[s]? =some (UE x y z u m)):
  ∃J,Xb E K 0 [2,7,8,9,10,32,33,34] x99_1 (k+1) ⟨[(2,.one (.ptr 0 0 0 0)),(7,.one (.own 1 0 0 n)),(8,.one r),(9,.one (.p lp)),(10,.one (.ptr s 0 0 0)),(32,.one (.p by_)),(33,LB d.length),(34,LB j)],H⟩=
   Xb E K 0 [2,7,8,9,10,32,33,34] x99_1 k ⟨[(2,.one (.ptr 0 0 0 0)),(7,.one (.own 1 0 0 n)),(8,.one r),(9,.one (.p lp)),(10,.one (.ptr s 0 0 0)),(32,.one (.p by_)),(33,LB d.length),(34,LB (j+1))],H++J⟩:=by
 have l:j<d.length:=(Zf.mp w).1;have B:=fun(P:HF) (T:IntKind)=>t.idx (h:=P) (k:=T) (sz:=15) w (by simp[SL,XF,i])
 have O:Xe .i64 (.ofNat (j+1))=.ofNat (j+1):=wrap_i64 (by omega);have U:(Xw m).take 8=Xw m:=Zd (by rw[Xc];omega);obtain⟨C,D,F,G,I,L,M,N,rfl⟩:=eight i;have f:=Wt g;simp only[UE]at f g;have v:mo [C,D,F,G,I,L,M,N]=[LA C,LA D,LA F,LA G,LA I,LA L,LA M,LA N]:=rfl;have V:mo Tz=[LA 0,LA 0,LA 0,LA 0,LA 0,LA 0,LA 0,LA 0]:=rfl;rw[V,v]at A;simp only[SL,v,ZU,ZF]at B;apply Exists.intro;rw[Xb];simp(decide:=true)only[Xo,Xr,Vx,reduceIte,Nat.reduceAdd,x99_1,o,X4,l,B,O,A,f,Xc,Q,U,Wb,Wf,UC,TQ,WK,W8,Zq,Zm,Zw];rfl
def SG (T:List (Nat×DV))(n:Nat)(r l:DL):Prop:=Xh T 2=some (.one (.ptr 0 0 0 0))/\Xh T 7=some (.one (.own 1 0 0 n))/\Xh T 8=some (.one r)/\Xh T 9=some (.one l)
theorem JK {a b:Type}{p q r:a->b->Prop}{x:a}{y:b}(h:p x y)(k:q x y)(l:r x y):∃x y,p x y/\q x y/\r x y:=⟨x,y,h,k,l⟩
theorem HW {a b:Type}{p q:a->b->Prop}{x:a}{y:b}(h:p x y)(k:q x y):∃x y,p x y/\q x y:=⟨x,y,h,k⟩
theorem Dd {E:Xa}{K k j n T l:Nat}(D:E.mode=md){r:DL}{lo by_:PL}{i es:I'}{L:N'}(F:Sl by_ i)(a1:i.length<1000000){a b c e p q:PL}{m m2 g:P'}{ix:Nat}(Q:i[j]? =some (SL a b c e m2 p q ix))(hm:m.length=8)(t:m2.length=8)(C:g.length=8)(w:∀d∈es,d.length=12)
  {x y z u e1 e2 M N:PL} {f:I'}
  (R:E.pure 62 [.agg (mo m),.agg (mo m2)]=some (.X9 [.agg (mo g),.one (.bool true)]))
  (A:E.pure 143 [.agg [x,y,z,u],.agg [a,b,c,e]]=some (.X9 [.agg [e1,e2,M,N],.one (LA 0)]))
  (v:E.pure 144 [.agg [lo,by_,LA l,.bool true],.one (.Xn es),.agg (e1::e2::M::N::mo g),.one q]=some (.X9 [.one (.Xn f),.one (.bool true)]))
  {H:V'} (h0:H[0]? =some (RB lo by_ l (.bool true))) (s:H[T]? =some (UE x y z u m)):
  ∃I J,Xb E K 0 [2,7,8,9,10,32,33,34] x99_1 (k+1) ⟨[(2,.one (.ptr 0 0 0 0)),(7,.one (.own 1 0 0 n)),(8,.one r),(9,.one (.p (.Xn (L::es)))),(10,.one (.ptr T 0 0 0)),(32,.one (.p by_)),(33,LB i.length),(34,LB j)],H⟩=some (.exit 1,⟨I,H++J⟩)/\SG I n r (.p (.Xn f)):=by
 have B:j<i.length:=(Zf.mp Q).1;have S:=fun(hh:HF) (kd:IntKind)=>F.idx (h:=hh) (k:=kd) (sz:=15) Q (by simp[SL,XF,t])
 have tm:(Xw m).take 8=Xw m:=Zd (by rw[Xc];omega);have G:(Xw g).take 8=Xw g:=Zd (by rw[Xc];omega);have a0:(Xw g).drop 8=[]:=Zo (by rw[Xc];omega);have w3:=X0 g;have s1:=Uf (c:=L) (es:=es) w;obtain⟨U,V,W,X,Y,Z,k7,k8,rfl⟩:=eight t;have o:=Wt s;have P:=Wt h0;simp only[UE]at o s;simp only[RB]at P h0;have O:mo [U,V,W,X,Y,Z,k7,k8]=[LA U,LA V,LA W,LA X,LA Y,LA Z,LA k7,LA k8]:=rfl;rw[O]at R;simp only[SL,O,ZU,ZF]at S;apply HW
 ·rw[Xb];simp(decide:=true)only[Xo,Xr,VR,Vx,reduceIte,Nat.reduceEqDiff,Nat.reduceLeDiff,Nat.reduceAdd,x99_1,D,X4,B,S,s1,R,A,v,o,P,Wj,Xc,hm,C,tm,G,w3,Wb,Wf,UC,TQ,WK,W8,Zq,Zm,Zw];rfl
 ·simp only[SG,Xo,reduceIte,Nat.reduceEqDiff,and_self]
theorem Dc {E:Xa}{K k j n it l:Nat}(N:E.mode=md){r:DL}{lo by_:PL}{o es:I'}{R:N'}(O:Sl by_ o)(a1:o.length<1000000){a b c e p q:PL}{m m2 g:P'}{ix:Nat}(W:o[j]? =some (SL a b c e m2 p q ix))(hm:m.length=8)(v:m2.length=8)(M:g.length=8)(D:∀d∈es,d.length=12)
  {x y z u e1 e2 B C:PL} {i:I'}
  (Y:E.pure 62 [.agg (mo m),.agg (mo m2)]=some (.X9 [.agg (mo g),.one (.bool true)]))
  (I:E.pure 143 [.agg [x,y,z,u],.agg [a,b,c,e]]=some (.X9 [.agg [e1,e2,B,C],.one (LA 0)]))
  (w:E.pure 144 [.agg [lo,by_,LA l,.bool false],.one (.Xn es),.agg (e1::e2::B::C::mo g),.one q]=some (.X9 [.one (.Xn i),.one (.bool true)]))
  {H:V'} (h0:H[0]? =some (RB lo by_ l (.bool false))) (t:H[it]? =some (UE x y z u m)) {f:K'} (U:H[1]? =some ⟨false,0,1,f,false,32⟩) (hn:f.length=n) (V:f[j]? =some [.p .Xq]):
  ∃Q J,Xb E K 0 [2,7,8,9,10,32,33,34] x99_1 (k+1) ⟨[(2,.one (.ptr 0 0 0 0)),(7,.one (.own 1 0 0 n)),(8,.one r),(9,.one (.p (.Xn (R::es)))),(10,.one (.ptr it 0 0 0)),(32,.one (.p by_)),(33,LB o.length),(34,LB j)],H⟩=some (.exit 1,⟨Q,H.set 1 ⟨false,0,1,f.set j [.own (H.length+4) 0 0 1],false,32⟩++J⟩)/\SG Q n r (.p (.Xn i))/\J[4]? =some (SJ 0 [e1::e2::B::C::mo g]):=by
 have L:j<o.length:=(Zf.mp W).1;have Z:=fun(hh:HF) (kd:IntKind)=>O.idx (h:=hh) (k:=kd) (sz:=15) W (by simp[SL,XF,v])
 have tm:(Xw m).take 8=Xw m:=Zd (by rw[Xc];omega);have P:(Xw g).take 8=Xw g:=Zd (by rw[Xc];omega);have a0:(Xw g).drop 8=[]:=Zo (by rw[Xc];omega);have w3:=X0 g;have s1:=Uf (c:=R) (es:=es) D;obtain⟨k1,k2,k3,k4,k5,k6,k7,k8,rfl⟩:=eight v;have s:=Wt t;have T:=Wt h0;simp only[UE]at s t;simp only[RB]at T h0;have S:mo [k1,k2,k3,k4,k5,k6,k7,k8]=[LA k1,LA k2,LA k3,LA k4,LA k5,LA k6,LA k7,LA k8]:=rfl;rw[S]at Y;simp only[SL,S,ZU,ZF]at Z;subst hn;have g1:=Wt U;have G:j<f.length:=(Zf.mp V).1;have st:=fun X b=>df (H:=H) (Zf.1 U).1 X b
 have F:∀(n:Nat) (c:Y') (A:P'),WZ 75 12 128 n [c] A=some ⟨.one (.own n 0 0 1),[⟨false,0,12,[c],false,75⟩],[],A⟩:=fun _ _ _=>rfl
 apply JK
 ·rw[Xb];simp(decide:=true)only[Xo,Xr,VR,Vx,reduceIte,Nat.reduceEqDiff,Nat.reduceLeDiff,Nat.reduceAdd,x99_1,N,X4,L,Z,s1,Y,I,w,s,T,Wj,Xc,hm,M,tm,P,w3,Wb,Wf,UC,TQ,WK,W8,Zq,Zm,Zw,g1,G,V,st,F];rfl
 ·simp only[SG,Xo,reduceIte,Nat.reduceEqDiff,and_self]
 ·simp only[Z2,Ym,SJ,pc,Wj,Zt,ZN]
theorem Db {E:Xa}{K k j n it l:Nat}(S:E.mode=md){r:DL}{lo by_:PL}{s es:I'}{Y:N'}(T:Sl by_ s)(a2:s.length<1000000){a b c e p q:PL}{m m2 g:P'}{ix:Nat}(hj:s[j]? =some (SL a b c e m2 p q ix))(hm:m.length=8)(C:m2.length=8)(R:g.length=8)(N:∀d∈es,d.length=12)
  {x y z u e1 e2 F G:PL} {o:I'}
  (hq:E.pure 62 [.agg (mo m),.agg (mo m2)]=some (.X9 [.agg (mo g),.one (.bool true)]))
  (P:E.pure 143 [.agg [x,y,z,u],.agg [a,b,c,e]]=some (.X9 [.agg [e1,e2,F,G],.one (LA 0)]))
  (D:E.pure 144 [.agg [lo,by_,LA l,.bool false],.one (.Xn es),.agg (e1::e2::F::G::mo g),.one q]=some (.X9 [.one (.Xn o),.one (.bool true)]))
  {H:V'} (h0:H[0]? =some (RB lo by_ l (.bool false))) (w:H[it]? =some (UE x y z u m)) {f:K'} (M:H[1]? =some ⟨false,0,1,f,false,32⟩) (hn:f.length=n) {id v:Nat} {qs:I'} (hc:f[j]? =some [.own id v 0 qs.length]) (A:H[id]? =some (SJ v qs)) (a4:2<=id) (a3:qs.length<1000000):
  ∃W J,Xb E K 0 [2,7,8,9,10,32,33,34] x99_1 (k+1) ⟨[(2,.one (.ptr 0 0 0 0)),(7,.one (.own 1 0 0 n)),(8,.one r),(9,.one (.p (.Xn (Y::es)))),(10,.one (.ptr it 0 0 0)),(32,.one (.p by_)),(33,LB s.length),(34,LB j)],H⟩=some (.exit 1,⟨W,(H.set id (SJ (v+1) (qs++[e1::e2::F::G::mo g]))).set 1 ⟨false,0,1,f.set j [.own id (v+1) 0 (qs++[e1::e2::F::G::mo g]).length],false,32⟩++J⟩)/\SG W n r (.p (.Xn o)):=by
 have Q:j<s.length:=(Zf.mp hj).1;have ip:=fun(hh:HF) (kd:IntKind)=>T.idx (h:=hh) (k:=kd) (sz:=15) hj (by simp[SL,XF,C])
 have tm:(Xw m).take 8=Xw m:=Zd (by rw[Xc];omega);have V:(Xw g).take 8=Xw g:=Zd (by rw[Xc];omega);have a1:(Xw g).drop 8=[]:=Zo (by rw[Xc];omega);have w3:=X0 g;have s1:=Uf (c:=Y) (es:=es) N;obtain⟨k1,k2,k3,k4,k5,k6,k7,k8,rfl⟩:=eight C;have t:=Wt w;have g0:=Wt h0;simp only[UE]at t w;simp only[RB]at g0 h0;have Z:mo [k1,k2,k3,k4,k5,k6,k7,k8]=[LA k1,LA k2,LA k3,LA k4,LA k5,LA k6,LA k7,LA k8]:=rfl;rw[Z]at hq;simp only[SL,Z,ZU,ZF]at ip;subst hn;have g1:=Wt M;have O:j<f.length:=(Zf.mp hc).1;have B:id<H.length:=(Zf.1 A).1;have st:=fun X b=>df (H:=H) B X b
 have U:=fun X b b'=>df (H:=H.set id b) (i:=1) (by rw[ZL];exact(Zf.1 M).1) X b'
 have I:∀(X:V') b,(H.set id b++X)[1]? =some ⟨false,0,1,f,false,32⟩:=fun X b=>Wt (by rw[ZK (by omega)];exact M) X
 have L:=Wt A;have f2:(qs.length+1)*128<=lim:=by unfold lim;omega
 have f3:qs.length+1<=9223372036854775807:=by omega
 have c1:(id=1)=False:=by simp;omega
 have a0:(id=0)=False:=by simp;omega
 have c2:∀x,(H.length+x<=id)=False:=fun x=>by simp;omega
 have c3:(H.length<=id)=False:=by simp;omega
 have c4:∀x,(id=H.length+x)=False:=fun x=>by simp;omega
 have c5:∀x,(H.length+x=id)=False:=fun x=>by simp;omega
 have c6:(1=id)=False:=by simp;omega
 apply HW
 ·rw[Xb];simp(decide:=true)only[Xo,Xr,VR,Vx,reduceIte,Nat.reduceEqDiff,Nat.reduceLeDiff,Nat.reduceAdd,x99_1,S,X4,Q,ip,s1,hq,P,D,t,g0,Wj,Xc,hm,R,tm,V,w3,Wb,Wf,UC,TQ,WK,W8,Zq,Zm,Zw,g1,O,hc,st,U,I,L,f2,f3,c2,c4,Wm,VL,ZL];rfl
 ·simp only[SG,Xo,reduceIte,Nat.reduceEqDiff,and_self]
abbrev cJ:=Option (Nat×Nat×I')
def gO:cJ->DL
 |none=>.p .Xq
 |some (id,v,es)=>.own id v 0 es.length
def AE:cJ->I'
 |none=>[]
 |some (_,_,es)=>es
abbrev Ur (xs:List cJ):K':=xs.map fun x=>[gO x]
abbrev Hn (c:K'):Xx:=⟨false,0,1,c,false,32⟩
structure fv (lo by_:PL)(l:Nat)(fst:Bool)(H:V')(r:cJ)(xs:List cJ):Prop where
 z0:H[0]? =some (RB lo by_ l (.bool fst))
 z1:H[1]? =some (Hn (Ur xs))
 own:∀(i id v:Nat) (es:I'),(r::xs)[i]? =some (some (id,v,es))->H[id]? =some (SJ v es)/\2<=id
 inj:∀(i j id v:Nat) (es:I') (v':Nat) (es':I'),(r::xs)[i]? =some (some (id,v,es))->(r::xs)[j]? =some (some (id,v',es'))->i=j
variable {lo by_:PL}{l:Nat}{fst:Bool}{H:V'}{r:cJ}{xs:List cJ}
theorem fv.app (h:fv lo by_ l fst H r xs)(J:V'):fv lo by_ l fst (H++J) r xs:=
 ⟨Wt h.z0 J,Wt h.z1 J,fun i id v a b=>⟨Wt (h.own i id v a b).1 J,(h.own i id v a b).2⟩,h.inj⟩
theorem fv.lt (h:fv lo by_ l fst H r xs){i id v:Nat}{a:I'}(b:(r::xs)[i]? =some (some (id,v,a))):id<H.length:=(Zf.1 (h.own i id v a b).1).1
theorem fv.Kl (h:fv lo by_ l fst H r xs):1<H.length:=(Zf.1 h.z1).1
theorem fv.mk' {c:List cJ}{g:cJ}{a:List cJ}(e:c=g::a)(k:H[0]? =some (RB lo by_ l (.bool fst)))(m:H[1]? =some (Hn (Ur a)))
  (f:∀(i id v:Nat) (b:I'),c[i]? =some (some (id,v,b))->H[id]? =some (SJ v b)/\2<=id) (inj:∀(i j id v:Nat) (b:I') (h:Nat) (d:I'),c[i]? =some (some (id,v,b))->c[j]? =some (some (id,h,d))->i=j):fv lo by_ l fst H g a:=by
 subst e;exact⟨k,m,f,inj⟩
theorem fv.grow (h:fv lo by_ l fst H r xs){p id v:Nat}{es:I'}(n:(r::xs)[p]? =some (some (id,v,es)))(w:Nat)(k:I'){r':cJ}{xs':List cJ}(e:(r::xs).set p (some (id,w,k))=r'::xs'){H':V'}
  (q:∀i,i≠1->H'[i]? =(H.set id (SJ w k))[i]?) (y:H'[1]? =some (Hn (Ur xs'))):fv lo by_ l fst H' r' xs':=by
 have s:=h.own p id v es n;have z:=h.lt n;refine fv.mk' e ?_ y ?_ ?_
 ·rw[q 0 (by omega),ZK (by omega)];exact h.z0
 ·intro i g o c a;rw[YK]at a;by_cases b:p=i
  ·rw[if_pos b]at a;split at a
   ·simp only[Za,Zp]at a;obtain⟨rfl,rfl,rfl⟩:=a;exact⟨by rw[q _ (by omega),Yv z],s.2⟩
   ·cases a
  ·rw[if_neg b]at a;have u:=h.own i g o c a;have t:id≠g:=fun e=>b (by subst e;exact h.inj p i id v es o c n a)
   exact⟨by rw[q _ (by omega),ZK t];exact u.1,u.2⟩
 ·intro i j g o c x m a f;rw[YK]at a f;by_cases b:p=i
  ·by_cases d:p=j
   ·omega
   ·rw[if_pos b]at a;rw[if_neg d]at f;split at a
    ·simp only[Za,Zp]at a;obtain⟨rfl,rfl,rfl⟩:=a;exact absurd (h.inj p j id v es x m n f) d
    ·cases a
  ·rw[if_neg b]at a;by_cases d:p=j
   ·rw[if_pos d]at f;split at f
    ·simp only[Za,Zp]at f;obtain⟨rfl,rfl,rfl⟩:=f;exact absurd (h.inj i p id o c v es a n) (fun e=>b e.symm)
    ·cases f
   ·rw[if_neg d]at f;exact h.inj i j g o c x m a f
theorem fv.new (h:fv lo by_ l fst H r xs){p id:Nat}(w:(r::xs)[p]? =some none){v:Nat}{es:I'}{r':cJ}{xs':List cJ}(e:(r::xs).set p (some (id,v,es))=r'::xs'){H':V'}
  (o:∀i,i≠1->i<H.length->H'[i]? =H[i]?) (q:H'[1]? =some (Hn (Ur xs'))) (t:H.length<=id) (s:H'[id]? =some (SJ v es)):fv lo by_ l fst H' r' xs':=by
 have x:=h.Kl;refine fv.mk' e ?_ q ?_ ?_
 ·rw[o 0 (by omega) (by omega)];exact h.z0
 ·intro i g m f a;rw[YK]at a;by_cases b:p=i
  ·rw[if_pos b]at a;split at a
   ·simp only[Za,Zp]at a;obtain⟨rfl,rfl,rfl⟩:=a;exact⟨s,by omega⟩
   ·cases a
  ·rw[if_neg b]at a;have n:=h.own i g m f a;exact⟨by rw[o _ (by omega) (h.lt a)];exact n.1,n.2⟩
 ·intro i j g m f u k a c;rw[YK]at a c;by_cases b:p=i
  ·by_cases d:p=j
   ·omega
   ·rw[if_pos b]at a;rw[if_neg d]at c;have:=h.lt c;split at a
    ·simp only[Za,Zp]at a;omega
    ·cases a
  ·rw[if_neg b]at a;have:=h.lt a;by_cases d:p=j
   ·rw[if_pos d]at c;split at c
    ·simp only[Za,Zp]at c;omega
    ·cases c
   ·rw[if_neg d]at c;exact h.inj i j g m f u k a c
def tG (E:Xa)(m:P')(d:N'):Prop:=∃a b c e m2 p q ix,d=SL a b c e m2 p q ix/\m2.length=8/\E.pure 62 [.agg (mo m),.agg (mo m2)]=some (.X9 [.agg (mo Tz),.one (.bool false)])
inductive Ix (E:Xa)(lo by_:PL)(l:Nat)(fst:Bool)(x y z u:PL)(m:P')(es:I'):N'->N'->I'->Prop
 |mk {a b c e p q e1 e2 e3 e4:PL} {m2 m3:P'} {ix:Nat} {outs:I'} (hm2:m2.length=8) (hm3:m3.length=8)
  (hq:E.pure 62 [.agg (mo m),.agg (mo m2)]=some (.X9 [.agg (mo m3),.one (.bool true)]))
  (hdv:E.pure 143 [.agg [x,y,z,u],.agg [a,b,c,e]]=some (.X9 [.agg [e1,e2,e3,e4],.one (LA 0)]))
  (hsub:E.pure 144 [.agg [lo,by_,LA l,.bool fst],.one (.Xn es),.agg (e1::e2::e3::e4::mo m3),.one q]=some (.X9 [.one (.Xn outs),.one (.bool true)])):
   Ix E lo by_ l fst x y z u m es (SL a b c e m2 p q ix) (e1::e2::e3::e4::mo m3) outs
abbrev Fh (n:Nat)(r:DL)(lp by_:PL)(it nd j:Nat):List (Nat×DV):=[(2,.one (.ptr 0 0 0 0)),(7,.one (.own 1 0 0 n)),(8,.one r),(9,.one (.p lp)),(10,.one (.ptr it 0 0 0)),(32,.one (.p by_)),(33,LB nd),(34,LB j)]
theorem cg {E:Xa}{K n it:Nat}(g:E.mode=md){r:DL}{lp by_:PL}{f:I'}(l:Sl by_ f)(h:f.length<1000000){m:P'}(t:m.length=8){x y z u:PL}:∀(c i k:Nat) (H:V'),(∀j,i<=j->j<i+c->∃d,f[j]? =some d/\tG E m d)->H[it]? =some (UE x y z u m)->
  ∃J,Xb E K 0 [2,7,8,9,10,32,33,34] x99_1 (k+c) ⟨Fh n r lp by_ it f.length i,H⟩=Xb E K 0 [2,7,8,9,10,32,33,34] x99_1 k ⟨Fh n r lp by_ it f.length (i+c),H++J⟩
 |0,i,k,H,_,_=>⟨[],by rw[ZE];rfl⟩
 |c+1,i,k,H,hs,h10=>by
  obtain⟨d,B,a,b,D,e,m2,p,q,I,rfl,s,C⟩:=hs i (Ze _) (by omega);obtain⟨o,w⟩:=Da (K:=K) (k:=k+c) (n:=n) (r:=r) (lp:=lp) g l h B t s C h10;obtain⟨v,A⟩:=cg g l h t c (i+1) k (H++o) (fun j F G=>hs j (by omega) (by omega)) (Wt h10 o);refine⟨o++v,?_⟩;rw[<-Zq,show i+(c+1)=i+1+c by omega];exact w.trans A
theorem xI {E:Xa}{K k n it:Nat}{r:DL}{lp by_:PL}{nd:Nat}(H:V'):
  ∃a,Xb E K 0 [2,7,8,9,10,32,33,34] x99_1 (k+1) ⟨Fh n r lp by_ it nd nd,H⟩=some (.exit 2,⟨a,H⟩)/\SG a n r (.p lp)/\Xh a 10=some (.one (.ptr it 0 0 0)):=by
 apply VO
 ·rw[Xb];simp only[Xo,Xr,reduceIte,Nat.reduceEqDiff,x99_1,Zv];rfl
 ·simp only[SG,Xo,reduceIte,Nat.reduceEqDiff,and_self]
theorem An {xs:List cJ}{j:Nat}{x:cJ}(h:xs[j]? =some x):(Ur xs)[j]? =some [gO x]:=by simp[Ur,h]
theorem nj (xs:List cJ)(j:Nat)(x:cJ):(Ur xs).set j [gO x]=Ur (xs.set j x):=by simp[Ur,List.map_set]
def iU (fst:Bool)(cs:z')(j:Nat)(t:N'):z':=match fst with
 |true=>cs
 |false=>match cs[j]? with
  |some q=>cs.set j (q++[t])
  |none=>cs
theorem FF {E:Xa}{K k j it:Nat}(B:E.mode=md){I es:I'}{c0:N'}(D:Sl by_ I)(C:I.length<1000000)(X:xs.length=I.length){m:P'}{x y z u:PL}{d s:N'}{g:I'}(R:I[j]? =some d)(V:m.length=8)(A:∀d∈es,d.length=12)
  (hd:Ix E lo by_ l fst x y z u m es d s g) (w:H[it]? =some (UE x y z u m)) (f:fv lo by_ l fst H r xs) (hc:∀x∈xs,(AE x).length<1000000):
  ∃o Y F,Xb E K 0 [2,7,8,9,10,32,33,34] x99_1 (k+1) ⟨Fh xs.length (gO r) (.Xn (c0::es)) by_ it I.length j,H⟩=some (.exit 1,⟨o,Y⟩)/\SG o xs.length (gO r) (.p (.Xn g))/\fv lo by_ l fst Y r F/\F.map AE=iU fst (xs.map AE) j s/\F.length=xs.length:=by
 obtain @⟨a,b,c,e,p,q,e1,e2,e3,e4,m2,m3,ix,g,hm2,hm3,hq,hdv,hsub⟩:=hd;have U:j<xs.length:=by rw[X];exact(Zf.1 R).1
 cases fst with
 |true=>
  obtain⟨o,J,L,M⟩:=Dd (K:=K) (k:=k) (n:=xs.length) (r:=gO r) B D C R V hm2 hm3 A hq hdv hsub f.z0 w;exact⟨o,_,xs,L,M,f.app J,rfl,rfl⟩
 |false=>
  obtain⟨x,S⟩:∃x,xs[j]? =some x:=⟨_,Zg U⟩;have Q:=An S;have N:(Ur xs).length=xs.length:=by simp
  have h:(r::xs)[j+1]? =some x:=by rw[Z2];exact S
  have P:∀t,iU false (xs.map AE) j t=(xs.map AE).set j (AE x++[t]):=fun t=>by
   simp only[iU,ZD,S,Z6]
  cases x with
  |none=>
   obtain⟨o,J,L,M,g3⟩:=Dc (K:=K) (k:=k) (n:=xs.length) (r:=gO r) B D C R V hm2 hm3 A hq hdv hsub f.z0 w f.z1 N Q;refine⟨o,_,_,L,M,f.new (p:=j+1) (id:=H.length+4) (v:=0) (es:=[e1::e2::e3::e4::mo m3]) h (r':=r) (by rw[YQ]) (fun i T hl=> ?_) ?_ (by omega) ?_,?_,by rw[ZL]⟩
   ·rw[ZA (by rw[ZL];exact hl),ZK (fun e=>T e.symm)]
   ·rw[ZA (by rw[ZL];exact f.Kl),Yv f.Kl,<-nj];rfl
   ·rw[ZJ (by rw[ZL];omega),ZL,Nat.add_sub_cancel_left];exact g3
   ·rw[P,List.map_set];rfl
  |some q=>
   obtain⟨id,v,G⟩:=q;have Z:=f.own (j+1) id v G h;have W:=hc _ (Zk S);obtain⟨o,J,L,M⟩:=Db (K:=K) (k:=k) (n:=xs.length) (r:=gO r) B D C R V hm2 hm3 A hq hdv hsub f.z0 w f.z1 N (id:=id) (v:=v) (qs:=G) Q Z.1 Z.2 W;have O:1<(H.set id (SJ (v+1) (G++[e1::e2::e3::e4::mo m3]))).length:=by rw[ZL];exact f.Kl
   refine⟨o,_,_,L,M,f.app J|>.grow (p:=j+1) (id:=id) (v:=v) (es:=G) h (v+1) (G++[e1::e2::e3::e4::mo m3]) (r':=r) (by rw[YQ]) (fun i T=> ?_) ?_,?_,by rw[ZL]⟩
   ·rw[df (f.lt h),List.getElem?_append,List.getElem?_append,ZL,ZK (fun e=>T e.symm)]
   ·rw[ZA (by rw[ZL];exact O),Yv O,<-nj];rfl
   ·rw[P,List.map_set];rfl
end Go.Proofs.YtidginchkjhobaaGreat
namespace Go.Proofs.YtidginchkjhobaaGreat
open Go.Ev Go.Num
theorem Ak {E:Xa}{K k n l:Nat}(L:E.mode=md){lo by_:PL}{g es:I'}(t:Sl by_ g)(M:g.length<1000000){m:P'}(B:m.length=8)(o:∀d∈es,d.length=12){x y z u:PL}{H b:V'}{T:List (Nat×DV)}
  (F:H[0]? =some (RB lo by_ l (.bool false))) (C:Xb E K 0 [2,7,8,9,10,32,33,34] x99_1 K ⟨Fh n (.p .Xq) (.Xn ((x::y::z::u::mo m)::es)) by_ H.length g.length 0,H++[UE x y z u m]⟩=some (.exit 2,⟨T,b⟩)) (s:SG T n (.p .Xq) (.p (.Xn ((x::y::z::u::mo m)::es)))) (N:Xh T 10=some (.one (.ptr H.length 0 0 0)))
  (a:b[H.length]? =some (UE x y z u m)) (G:b[0]? =some (RB lo by_ l (.bool false))):
  ∃J,Xb E K 0 [2,7,8,9] x99_2 (k+1) ⟨[(2,.one (.ptr 0 0 0 0)),(7,.one (.own 1 0 0 n)),(8,.one (.p .Xq)),(9,.one (.p (.Xn ((x::y::z::u::mo m)::es))))],H⟩=Xb E K 0 [2,7,8,9] x99_2 k ⟨[(2,.one (.ptr 0 0 0 0)),(7,.one (.own 1 0 0 n)),(8,.one (.own (b.length+1) 0 0 1)),(9,.one (.p (.Xn es)))],b++J⟩/\J[1]? =some (SJ 0 [x::y::z::u::mo m]):=by
 obtain⟨R,S,U,V⟩:=s;have D:Sl (.Xn ((x::y::z::u::mo m)::es)) _:=.Xn;have e:=D.len;have O:=fun(I:HF) (P:IntKind)=>D.idx (h:=I) (k:=P) (i:=0) (sz:=12) rfl (by simp[XF,B])
 have Q:=Uf (c:=x::y::z::u::mo m) (es:=es) o;have W:(Xw m).take 8=Xw m:=Zd (by rw[Xc];omega);have X:(Xw m).drop 8=[]:=Zo (by rw[Xc];omega);have w:=X0 m;have v:=Wt F;have A:=Wt G;have j:=Wt a;have r:=t.len;simp only[UE]at j a C;simp only[RB]at v F A G;have q:∀(n:Nat) (c:Y') (f:P'),WZ 75 12 128 n [c] f=some ⟨.one (.own n 0 0 1),[⟨false,0,12,[c],false,75⟩],[],f⟩:=fun _ _ _=>rfl
 apply Exists.intro;refine⟨?_,?_⟩
 ·rw[Xb];simp(decide:=true)only[Xo,Xr,reduceIte,Nat.reduceAdd,x99_2,Wj,Xc,WK,W8,Zq,Zm,Zw,YD,e,O,Q,W,v,A,a,r,C,R,S,U,V,N,B,q];rfl
 ·simp only[Z2,Ym,SJ,pc,Wj,Zt,ZN]
theorem Aj {E:Xa}{K k n l:Nat}(M:E.mode=md){lo by_:PL}{j es:I'}(v:Sl by_ j)(N:j.length<1000000){m:P'}(C:m.length=8)(q:∀d∈es,d.length=12){x y z u:PL}{H b:V'}{T:List (Nat×DV)}
  (G:H[0]? =some (RB lo by_ l (.bool true))) (D:Xb E K 0 [2,7,8,9,10,32,33,34] x99_1 K ⟨Fh n (.p .Xq) (.Xn ((x::y::z::u::mo m)::es)) by_ H.length j.length 0,H++[UE x y z u m]⟩=some (.exit 2,⟨T,b⟩)) (t:SG T n (.p .Xq) (.p (.Xn ((x::y::z::u::mo m)::es)))) (O:Xh T 10=some (.one (.ptr H.length 0 0 0)))
  (a:b[H.length]? =some (UE x y z u m)) (I:b[0]? =some (RB lo by_ l (.bool true))):
  ∃g J,Xb E K 0 [2,7,8,9] x99_2 (k+1) ⟨[(2,.one (.ptr 0 0 0 0)),(7,.one (.own 1 0 0 n)),(8,.one (.p .Xq)),(9,.one (.p (.Xn ((x::y::z::u::mo m)::es))))],H⟩=some (.exit 0,⟨g,b++J⟩)/\(Xh g 7=some (.one (.own 1 0 0 n))/\Xh g 8=some (.one (.own (b.length+1) 0 0 1)))/\J[1]? =some (SJ 0 [x::y::z::u::mo m]):=by
 obtain⟨R,S,U,V⟩:=t;have F:Sl (.Xn ((x::y::z::u::mo m)::es)) _:=.Xn;have e:=F.len;have P:=fun(L:HF) (Q:IntKind)=>F.idx (h:=L) (k:=Q) (i:=0) (sz:=12) rfl (by simp[XF,C])
 have Y:=Uf (c:=x::y::z::u::mo m) (es:=es) q;have W:(Xw m).take 8=Xw m:=Zd (by rw[Xc];omega);have X:(Xw m).drop 8=[]:=Zo (by rw[Xc];omega);have w:=X0 m;have A:=Wt G;have B:=Wt I;have o:=Wt a;have s:=v.len;simp only[UE]at o a D;simp only[RB]at A G B I;have r:∀(n:Nat) (c:Y') (f:P'),WZ 75 12 128 n [c] f=some ⟨.one (.own n 0 0 1),[⟨false,0,12,[c],false,75⟩],[],f⟩:=fun _ _ _=>rfl
 apply JK
 ·rw[Xb];simp(decide:=true)only[Xo,Xr,reduceIte,Nat.reduceAdd,x99_2,Wj,Xc,WK,W8,Zq,Zm,Zw,YD,e,P,W,A,B,a,s,D,R,S,U,V,O,C,r];rfl
 ·simp only[Xo,reduceIte,Nat.reduceEqDiff,and_self]
 ·simp only[Z2,Ym,SJ,pc,Wj,Zt,ZN]
theorem Ai {E:Xa}{K k n l:Nat}(S:E.mode=md){lo by_:PL}{r es:I'}(D:Sl by_ r)(U:r.length<1000000){m:P'}(I:m.length=8)(A:∀d∈es,d.length=12){x y z u:PL}{H f:V'}{T:List (Nat×DV)}{id v:Nat}{e:I'}(a:f[id]? =some (SJ v e))(V:e.length<1000000)
  (N:H[0]? =some (RB lo by_ l (.bool false))) (L:Xb E K 0 [2,7,8,9,10,32,33,34] x99_1 K ⟨Fh n (.own id v 0 e.length) (.Xn ((x::y::z::u::mo m)::es)) by_ H.length r.length 0,H++[UE x y z u m]⟩=some (.exit 2,⟨T,f⟩)) (C:SG T n (.own id v 0 e.length) (.p (.Xn ((x::y::z::u::mo m)::es)))) (W:Xh T 10=some (.one (.ptr H.length 0 0 0)))
  (g:f[H.length]? =some (UE x y z u m)) (q:f[0]? =some (RB lo by_ l (.bool false))):
  ∃J,Xb E K 0 [2,7,8,9] x99_2 (k+1) ⟨[(2,.one (.ptr 0 0 0 0)),(7,.one (.own 1 0 0 n)),(8,.one (.own id v 0 e.length)),(9,.one (.p (.Xn ((x::y::z::u::mo m)::es))))],H⟩=Xb E K 0 [2,7,8,9] x99_2 k ⟨[(2,.one (.ptr 0 0 0 0)),(7,.one (.own 1 0 0 n)),(8,.one (.own id (v+1) 0 (e++[x::y::z::u::mo m]).length)),(9,.one (.p (.Xn es)))],f.set id (SJ (v+1) (e++[x::y::z::u::mo m]))++J⟩:=by
 obtain⟨s2,s7,s8,s9⟩:=C;have M:Sl (.Xn ((x::y::z::u::mo m)::es)) _:=.Xn;have o:=M.len;have Y:=fun(R:HF) (Z:IntKind)=>M.idx (h:=R) (k:=Z) (i:=0) (sz:=12) rfl (by simp[XF,I])
 have s1:=Uf (c:=x::y::z::u::mo m) (es:=es) A;have tm:(Xw m).take 8=Xw m:=Zd (by rw[Xc];omega);have dm:(Xw m).drop 8=[]:=Zo (by rw[Xc];omega);have w:=X0 m;have G:=Wt N;have Q:=Wt q;have s:=Wt g;have B:=D.len;simp only[UE]at s g L;simp only[RB]at G N Q q;have st:=fun X b=>df (H:=f) (Zf.1 a).1 X b
 have t:=Wt a;have O:(e.length+1)*128<=lim:=by unfold lim;omega
 have P:e.length+1<=9223372036854775807:=by omega
 have F:∀b X,id≠0->(f.set id b++X)[0]? =some ⟨false,0,4,[[.p lo,.p by_,.p (LA l),.p (.bool false)]],false,135⟩:=fun b X h0=>Wt (by rw[ZK (by omega)];exact q) X
 have j:id≠0:=by
  rintro rfl;rw[q]at a;cases a
 apply Exists.intro;rw[Xb];simp(decide:=true)only[Xo,Xr,reduceIte,Nat.reduceAdd,x99_2,Wj,Xc,WK,W8,Zm,Zw,YD,o,Y,s1,tm,G,g,B,L,s2,s7,s8,s9,W,I,st,t,O,P,Wm,VL,F _ _ j];rfl
theorem Ah {E:Xa}{K k n l:Nat}(U:E.mode=md){lo by_:PL}{s es:I'}(F:Sl by_ s)(V:s.length<1000000){m:P'}(L:m.length=8)(B:∀d∈es,d.length=12){x y z u:PL}{H f:V'}{T:List (Nat×DV)}{id v:Nat}{e:I'}(a:f[id]? =some (SJ v e))(W:e.length<1000000)
  (O:H[0]? =some (RB lo by_ l (.bool true))) (M:Xb E K 0 [2,7,8,9,10,32,33,34] x99_1 K ⟨Fh n (.own id v 0 e.length) (.Xn ((x::y::z::u::mo m)::es)) by_ H.length s.length 0,H++[UE x y z u m]⟩=some (.exit 2,⟨T,f⟩)) (D:SG T n (.own id v 0 e.length) (.p (.Xn ((x::y::z::u::mo m)::es)))) (Y:Xh T 10=some (.one (.ptr H.length 0 0 0)))
  (g:f[H.length]? =some (UE x y z u m)) (q:f[0]? =some (RB lo by_ l (.bool true))):
  ∃r J,Xb E K 0 [2,7,8,9] x99_2 (k+1) ⟨[(2,.one (.ptr 0 0 0 0)),(7,.one (.own 1 0 0 n)),(8,.one (.own id v 0 e.length)),(9,.one (.p (.Xn ((x::y::z::u::mo m)::es))))],H⟩=some (.exit 0,⟨r,f.set id (SJ (v+1) (e++[x::y::z::u::mo m]))++J⟩)/\(Xh r 7=some (.one (.own 1 0 0 n))/\Xh r 8=some (.one (.own id (v+1) 0 (e++[x::y::z::u::mo m]).length))):=by
 obtain⟨s2,s7,s8,s9⟩:=D;have N:Sl (.Xn ((x::y::z::u::mo m)::es)) _:=.Xn;have o:=N.len;have Z:=fun(S:HF) (kd:IntKind)=>N.idx (h:=S) (k:=kd) (i:=0) (sz:=12) rfl (by simp[XF,L])
 have s1:=Uf (c:=x::y::z::u::mo m) (es:=es) B;have tm:(Xw m).take 8=Xw m:=Zd (by rw[Xc];omega);have dm:(Xw m).drop 8=[]:=Zo (by rw[Xc];omega);have w:=X0 m;have I:=Wt O;have R:=Wt q;have t:=Wt g;have C:=F.len;simp only[UE]at t g M;simp only[RB]at I O R q;have st:=fun X b=>df (H:=f) (Zf.1 a).1 X b
 have A:=Wt a;have P:(e.length+1)*128<=lim:=by unfold lim;omega
 have Q:e.length+1<=9223372036854775807:=by omega
 have G:∀b X,id≠0->(f.set id b++X)[0]? =some ⟨false,0,4,[[.p lo,.p by_,.p (LA l),.p (.bool true)]],false,135⟩:=fun b X h0=>Wt (by rw[ZK (by omega)];exact q) X
 have j:id≠0:=by
  rintro rfl;rw[q]at a;cases a
 apply HW
 ·rw[Xb];simp(decide:=true)only[Xo,Xr,reduceIte,Nat.reduceAdd,x99_2,Wj,Xc,WK,W8,Zm,Zw,YD,o,Z,tm,I,g,C,M,s2,s7,s8,s9,Y,L,st,A,P,Q,Wm,VL,G _ _ j];rfl
 ·simp only[Xo,reduceIte,Nat.reduceEqDiff,and_self,Zm]
theorem FG {E:Xa}{K k n l:Nat}{fst:Bool}(B:E.mode=md){lo by_:PL}{j c:I'}(f:Sl by_ j){m:P'}(q:m.length=8){x y z u:PL}{H g:V'}{T:List (Nat×DV)}{r:DL}{a:I'}
  (v:H[0]? =some (RB lo by_ l (.bool fst))) (s:Xb E K 0 [2,7,8,9,10,32,33,34] x99_1 K ⟨Fh n r (.Xn ((x::y::z::u::mo m)::c)) by_ H.length j.length 0,H++[UE x y z u m]⟩=some (.exit 1,⟨T,g⟩)) (e:SG T n r (.p (.Xn a))):
  Xb E K 0 [2,7,8,9] x99_2 (k+1) ⟨[(2,.one (.ptr 0 0 0 0)),(7,.one (.own 1 0 0 n)),(8,.one r),(9,.one (.p (.Xn ((x::y::z::u::mo m)::c))))],H⟩=Xb E K 0 [2,7,8,9] x99_2 k ⟨[(2,.one (.ptr 0 0 0 0)),(7,.one (.own 1 0 0 n)),(8,.one r),(9,.one (.p (.Xn a)))],g⟩:=by
 obtain⟨F,G,I,J⟩:=e;have t:Sl (.Xn ((x::y::z::u::mo m)::c)) _:=.Xn;have b:=t.len;have C:=fun(A:HF) (D:IntKind)=>t.idx (h:=A) (k:=D) (i:=0) (sz:=12) rfl (by simp[XF,q])
 have L:(Xw m).take 8=Xw m:=Zd (by rw[Xc];omega);have M:(Xw m).drop 8=[]:=Zo (by rw[Xc];omega);have w:=X0 m;have o:=Wt v;have d:=f.len;simp only[UE]at s;simp only[RB]at o v;rw[Xb];simp(decide:=true)only[Xo,Xr,reduceIte,Nat.reduceAdd,x99_2,Wj,Xc,WK,W8,Zm,Zw,YD,b,C,L,o,d,s,F,G,I,J,q,Nat.reduceBEq,BEq.rfl]
abbrev Hu (n:Nat)(r:DL)(lp:PL):List (Nat×DV):=[(2,.one (.ptr 0 0 0 0)),(7,.one (.own 1 0 0 n)),(8,.one r),(9,.one (.p lp))]
theorem De {E:Xa}{K k n:Nat}{r:DL}{c:PL}(d:Sl c [])(H:V'):
  ∃b,Xb E K 0 [2,7,8,9] x99_2 (k+1) ⟨Hu n r c,H⟩=some (.exit 0,⟨b,H⟩)/\Xh b 7=some (.one (.own 1 0 0 n))/\Xh b 8=some (.one r):=by
 have a:=d.len;apply VO
 ·rw[Xb];simp only[Xo,Xr,reduceIte,Nat.reduceEqDiff,x99_2,a,Zv];rfl
 ·simp only[Xo,reduceIte,Nat.reduceEqDiff,and_self]
inductive pA (E:Xa)(lo by_:PL)(l:Nat)(fst:Bool)(ds:I'):Nat->I'->z'->I'->z'->I'->Prop
 |done {cs:z'} {r:I'}:pA E lo by_ l fst ds 0 [] cs r cs r
 |BF {n:Nat} {cs cs':z'} {r r' es:I'} {x y z u:PL} {m:P'} (hf:fst=false) (hm:m.length=8) (h12:∀d∈es,d.length=12) (hr:r.length<1000000)
   (hs:∀j,j<ds.length->∃d,ds[j]? =some d/\tG E m d) (h:pA E lo by_ l fst ds n es cs (r++[x::y::z::u::mo m]) cs' r'):pA E lo by_ l fst ds (n+1) ((x::y::z::u::mo m)::es) cs r cs' r'
 |BE {cs:z'} {r es:I'} {x y z u:PL} {m:P'} (hf:fst=true) (hm:m.length=8) (h12:∀d∈es,d.length=12) (hr:r.length<1000000)
   (hs:∀j,j<ds.length->∃d,ds[j]? =some d/\tG E m d):pA E lo by_ l fst ds 1 ((x::y::z::u::mo m)::es) cs r cs (r++[x::y::z::u::mo m])
 |div {n j:Nat} {cs cs':z'} {r r' es outs:I'} {d t:N'} {x y z u:PL} {m:P'} (hm:m.length=8) (h12:∀d∈es,d.length=12) (hj:ds[j]? =some d)
   (hs:∀i,i<j->∃d,ds[i]? =some d/\tG E m d) (hd:Ix E lo by_ l fst x y z u m es d t outs) (hc:∀c∈cs,c.length<1000000) (h:pA E lo by_ l fst ds n outs (iU fst cs j t) r cs' r'):pA E lo by_ l fst ds (n+1) ((x::y::z::u::mo m)::es) cs r cs' r'
theorem Ie {E:Xa}{K l:Nat}{fst:Bool}(f:E.mode=md){lo by_:PL}{b:I'}(o:Sl by_ b)(s:b.length<1000000)(hK:b.length<K){n:Nat}{left:I'}{cs R:z'}{rc S:I'}(h:pA E lo by_ l fst b n left cs rc R S):
  ∀(k:Nat) (lp:PL) (H:V') (r:cJ) (xs:List cJ),n<k->Sl lp left->fv lo by_ l fst H r xs->xs.length=b.length->xs.map AE=cs->AE r=rc->
   ∃w F D c,Xb E K 0 [2,7,8,9] x99_2 k ⟨Hu b.length (gO r) lp,H⟩=some (.exit 0,⟨w,F⟩)/\(Xh w 7=some (.one (.own 1 0 0 b.length))/\Xh w 8=some (.one (gO D)))/\fv lo by_ l fst F D c/\c.length=b.length/\c.map AE=R/\AE D=S:=by
 induction h with
 |done=>
  intro k lp H r xs hk sl G e e1 e2;obtain⟨k,rfl⟩:∃k',k=k'+1:=⟨k-1,by omega⟩;obtain⟨w,N,X⟩:=De (E:=E) (K:=K) (k:=k) (n:=b.length) (r:=gO r) sl H;exact⟨w,H,r,xs,N,X,G,e,e1,e2⟩
 |@BF n cs R rc S M x y z u m hf O B hr P h ih=>
  intro k lp H r xs hk sl G e e1 e2;obtain⟨k,rfl⟩:∃k',k=k'+1:=⟨k-1,by omega⟩;obtain rfl:=Sl.VP sl;subst hf;obtain⟨J,U⟩:=cg (K:=K) (n:=b.length) (it:=H.length) (r:=gO r) (lp:=.Xn ((x::y::z::u::mo m)::M)) f o s O b.length 0 (K-b.length) (H++[UE x y z u m]) (fun j _ h=>P j (by omega)) (by rw[WK]);rw[YZ (by omega),Yg]at U;obtain⟨T,V,W,Z⟩:=xI (E:=E) (K:=K) (k:=K-b.length-1) (n:=b.length) (it:=H.length) (r:=gO r) (lp:=.Xn ((x::y::z::u::mo m)::M)) (by_:=by_) (nd:=b.length) (H++[UE x y z u m]++J);rw[show K-b.length-1+1=K-b.length by omega]at V;have Y:=U.trans V;have a:=(G.app [UE x y z u m]).app J;have A:(H++[UE x y z u m]++J)[H.length]? =some (UE x y z u m):=Wt (by rw[WK]) J;have g:(r::xs)[0]? =some r:=rfl;cases r with
  |none=>
   obtain⟨Q,N,X⟩:=Ak (K:=K) (k:=k) f o s O B G.z0 Y W Z A a.z0;have C:=a.new (p:=0) (id:=(H++[UE x y z u m]++J).length+1) (v:=0) (es:=[x::y::z::u::mo m]) g (r':=some (_,0,[_])) (xs':=xs) rfl (H':=H++[UE x y z u m]++J++Q) (fun i _ hl=>ZA hl) (Wt a.z1 Q) (by omega) (by rw[UC];exact X);obtain⟨w,F,D,c,k1,k2⟩:=ih k (.Xn M) _ _ xs (by omega) .Xn C e e1 (by rw[<-e2];rfl);exact⟨w,F,D,c,N.trans k1,k2⟩
  |some q=>
   obtain⟨id,v,I⟩:=q;have L:I=rc:=e2;have ho:=a.own 0 id v I g;obtain⟨Q,N⟩:=Ai (K:=K) (k:=k) f o s O B ho.1 (by rw[L];exact hr) G.z0 Y W Z A a.z0;have hl:=a.lt g;have C:=a.grow (p:=0) g (v+1) (I++[x::y::z::u::mo m]) (r':=some (id,v+1,I++[_])) (xs':=xs) rfl (H':=(H++[UE x y z u m]++J).set id (SJ (v+1) (I++[x::y::z::u::mo m]))) (fun i _=>rfl) (by rw[ZK (by have:=ho.2;omega)];exact a.z1);obtain⟨w,F,D,c,k1,k2⟩:=ih k (.Xn M) _ _ xs (by omega) .Xn (C.app Q) e e1 (by rw[<-L];rfl);exact⟨w,F,D,c,N.trans k1,k2⟩
 |@BE cs rc M x y z u m hf O B hr P=>
  intro k lp H r xs hk sl G e e1 e2;obtain⟨k,rfl⟩:∃k',k=k'+1:=⟨k-1,by omega⟩;obtain rfl:=Sl.VP sl;subst hf;obtain⟨J,U⟩:=cg (K:=K) (n:=b.length) (it:=H.length) (r:=gO r) (lp:=.Xn ((x::y::z::u::mo m)::M)) f o s O b.length 0 (K-b.length) (H++[UE x y z u m]) (fun j _ h=>P j (by omega)) (by rw[WK]);rw[YZ (by omega),Yg]at U;obtain⟨T,V,W,Z⟩:=xI (E:=E) (K:=K) (k:=K-b.length-1) (n:=b.length) (it:=H.length) (r:=gO r) (lp:=.Xn ((x::y::z::u::mo m)::M)) (by_:=by_) (nd:=b.length) (H++[UE x y z u m]++J);rw[show K-b.length-1+1=K-b.length by omega]at V;have Y:=U.trans V;have a:=(G.app [UE x y z u m]).app J;have A:(H++[UE x y z u m]++J)[H.length]? =some (UE x y z u m):=Wt (by rw[WK]) J;have g:(r::xs)[0]? =some r:=rfl;cases r with
  |none=>
   obtain⟨w,Q,N,X,g3⟩:=Aj (K:=K) (k:=k) f o s O B G.z0 Y W Z A a.z0;have C:=a.new (p:=0) (id:=(H++[UE x y z u m]++J).length+1) (v:=0) (es:=[x::y::z::u::mo m]) g (r':=some (_,0,[_])) (xs':=xs) rfl (H':=H++[UE x y z u m]++J++Q) (fun i _ hl=>ZA hl) (Wt a.z1 Q) (by omega) (by rw[UC];exact g3);exact⟨w,_,some ((H++[UE x y z u m]++J).length+1,0,[x::y::z::u::mo m]),xs,N,X,C,e,e1,by rw[<-e2];rfl⟩
  |some q=>
   obtain⟨id,v,I⟩:=q;have L:I=rc:=e2;have ho:=a.own 0 id v I g;obtain⟨w,Q,N,X⟩:=Ah (K:=K) (k:=k) f o s O B ho.1 (by rw[L];exact hr) G.z0 Y W Z A a.z0;have hl:=a.lt g;have C:=a.grow (p:=0) g (v+1) (I++[x::y::z::u::mo m]) (r':=some (id,v+1,I++[_])) (xs':=xs) rfl (H':=(H++[UE x y z u m]++J).set id (SJ (v+1) (I++[x::y::z::u::mo m]))) (fun i _=>rfl) (by rw[ZK (by have:=ho.2;omega)];exact a.z1);exact⟨w,_,some (id,v+1,I++[x::y::z::u::mo m]),xs,N,X,C.app Q,e,e1,by rw[<-L];rfl⟩
 |@div n j cs R rc S M a0 d t x y z u m O B hj P hd hc h ih=>
  intro k lp H r xs hk sl G e e1 e2;obtain⟨k,rfl⟩:∃k',k=k'+1:=⟨k-1,by omega⟩;obtain rfl:=Sl.VP sl;have a2:j<b.length:=(Zf.1 hj).1;obtain⟨J,U⟩:=cg (K:=K) (n:=b.length) (it:=H.length) (r:=gO r) (lp:=.Xn ((x::y::z::u::mo m)::M)) f o s O j 0 (K-j) (H++[UE x y z u m]) (fun i _ h=>P i (by omega)) (by rw[WK]);rw[YZ (by omega),Yg]at U;have a:=(G.app [UE x y z u m]).app J;have A:(H++[UE x y z u m]++J)[H.length]? =some (UE x y z u m):=Wt (by rw[WK]) J;obtain⟨T,H2,a1,V,W,Z,j5,j6⟩:=FF (K:=K) (k:=K-j-1) (c0:=x::y::z::u::mo m) f o s e hj O B hd A a (fun x Y=>hc _ (by rw[<-e1];exact ZM.2 ⟨x,Y,rfl⟩));rw[show K-j-1+1=K-j by omega,e]at V;rw[e]at W;have N:=FG (K:=K) (k:=k) f o O G.z0 (U.trans V) W;obtain⟨w,F,D,c,k1,k2⟩:=ih k (.Xn a0) H2 r a1 (by omega) .Xn Z (by rw[j6,e]) (by rw[j5,e1]) e2;exact⟨w,F,D,c,N.trans k1,k2⟩
def AB:cJ->PL
 |none=>.Xq
 |some (_,_,es)=>.Xn es
theorem BY (x:cJ):Sl (AB x) (AE x):=by
 cases x with
 |none=>exact .nil
 |some q=>obtain⟨id,v,a⟩:=q;exact .Xn
theorem Fq {H:V'}{x:cJ}(h:∀id v a,x=some (id,v,a)->H[id]? =some (SJ v a))(n:Nat):XC (n+1) (Xj H) (gO x)=some (AB x):=by
 cases x with
 |none=>rfl
 |some q=>
  obtain⟨id,v,a⟩:=q;have b:=h id v a rfl;have f:=WV a (Ze _);have d:=Ve n (Xj H) a;have e:Xj H id=some (SJ v a):=b;have c:(Nat.beq v v&& !false&&Nat.ble (0+a.length) (pc a).length)=true:=by simp[Wm]
  simp only[gO,XC,e,c,cond_true,Yh,f,d,AB]
theorem mI {h:HF}{n:Nat}:∀{xs:List cJ},(∀x∈xs,XC n h (gO x)=some (AB x))->Xv (Xv (XC n h)) (Ur xs)=some (Xf (xs.map AB))
 |[],_=>rfl
 |x::xs,hx=>by
  have a:=mI (xs:=xs) fun y c=>hx y (Zb _ c)
  have b:=hx x (Zc ..);simp only[Ur]at a;simp only[Ur,Zt,Xv,b,a,Xf]
theorem fv.AD {lo by_:PL}{l:Nat}{fst:Bool}{H:V'}{r:cJ}{xs:List cJ}(h:fv lo by_ l fst H r xs):XT (Xj H) (.one (.own 1 0 0 xs.length))=some (.one (.Xn (Xf (xs.map AB))))/\XT (Xj H) (.one (gO r))=some (.one (AB r)):=by
 have b:∀(n i:Nat) (x:cJ),(r::xs)[i]? =some x->XC (n+1) (Xj H) (gO x)=some (AB x):=fun n i x a=>Fq (fun id v c e=>(h.own i id v c (by rw[a,e])).1) n
 constructor
 ·have d:=mI (h:=Xj H) (n:=5) (xs:=xs) fun x j=>by
   obtain⟨i,a⟩:=ZB.1 j;exact b 4 (i+1) x (by rw[Z2];exact a)
  have e:Xj H 1=some (Hn (Ur xs)):=h.z1;have g:(Nat.beq 0 0&& !false&&Nat.ble (0+xs.length) (Ur xs).length)=true:=by simp[Ur]
  have k:(Ur xs).take xs.length=Ur xs:=Zd (by simp[Ur]);simp only[XT,WC,XC,e,g,cond_true,Yh,k,d]
 ·have f:=b 5 0 r rfl;simp only[XT,WC,f]
theorem fv.start {lo by_:PL}{l:Nat}{fst:Bool}(n:Nat):fv lo by_ l fst [RB lo by_ l (.bool fst),Hn (List.replicate n [.p .Xq])] none (List.replicate n none):=by
 have b:∀(i:Nat) (y:Nat×Nat×I'),((none:cJ)::List.replicate n none)[i]? =some (some y)->False:=fun i y a=>by
  have:=Zk a;rcases Zj.1 this with h|h
  ·cases h
  ·have:=(YR.1 h).2;cases this
 refine⟨rfl,?_,fun i id v c a=>(b i _ a).elim,fun i j id v c e d a _=>(b i _ a).elim⟩;show some _=_;simp[Ur,gO]
theorem oT {B:Xs}(w:Std B){lo by_ q o:PL}{l n:Nat}{fst:Bool}{b left s:I'}{c:z'}(h:Sl by_ b)(m:b.length<1000000)(H:Xu B 140 [.one q,.one lo] (.one o))(N:Sl o left)
  (L:XS B fun E _=>pA E lo by_ l fst b n left (List.replicate b.length []) [] c s):
  ∃d e,Xu B 99 [.agg [lo,by_,LA l,.bool fst],.one q] (.X9 [.one (.Xn (Xf d)),.one e,.one (.bool true)])/\XB Sl d c/\Sl e s:=by
 obtain⟨r,I,d,e,rfl,J⟩:=Xu.fE (p:=fun r=>∃d e,r=.X9 [.one (.Xn (Xf d)),.one e,.one (.bool true)]/\XB Sl d c/\Sl e s) (w.Wa 99 _ rfl) (a:=[.agg [lo,by_,LA l,.bool fst],.one q]) ((L.and (H.Xk.and (w.Xk.and (XS.ge (b.length+n+2))))).mono fun E K ⟨e1,e2,g,Q⟩=>by
  obtain⟨P,O,y,i,k,⟨D,F⟩,t,u,v,G⟩:=Ie (K:=K) g h m (by omega) e1 K o _ none (List.replicate b.length none) (by omega) N (fv.start b.length) (by simp) (by simp[AE]) rfl;obtain⟨j,C⟩:=t.AD;rw[u]at j;refine⟨_,?_,i.map AB,AB y,rfl,?_,by rw[<-G];exact BY y⟩
  ·have f:=h.len;have z:24*b.length<=lim:=by unfold lim;omega
   have A:b.length<=9223372036854775807:=by omega
   simp only[Hu,RB,Hn,gO]at k;simp only[Xo,Xr,Vx,reduceIte,Nat.reduceEqDiff,Nat.reduceLeDiff,Nat.reduceAdd,Ze,x99,g,X4,f,z,A,e2,k,D,F,j,C]
  ·rw[<-v];clear j t u v k;induction i with
   |nil=>exact .nil
   |cons x xs M=>exact .cons (BY x) M)
 exact⟨d,e,I,J⟩
end Go.Proofs.YtidginchkjhobaaGreat
namespace Go.Num
abbrev Dv:=Qm×Z'×Z'×Nat
def TY (m:P'):List Dv->Nat->Option Nat
 |[],_=>none
 |d::ds,i=>if Wn d.1.2 m=true then some i else TY m ds (i+1)
theorem Sc {m:P'}:∀{a:List Dv} {i:Nat},TY m a i=none->∀d∈a,Wn d.1.2 m=false
 |[],_,_,d,hd=>by cases hd
 |e::a,i,h,d,hd=>by
  unfold TY at h;split at h
  ·cases h
  ·rename_i b;rcases Zj.1 hd with rfl|hd
   ·simpa using b
   ·exact Sc h d hd
theorem Ru {m:P'}:∀{a:List Dv} {i j:Nat},TY m a i=some j->∃d,i<=j/\a[j-i]? =some d/\Wn d.1.2 m=true/\∀k,k<j-i->∃e,a[k]? =some e/\Wn e.1.2 m=false
 |[],_,_,h=>by cases h
 |e::a,i,j,h=>by
  unfold TY at h;split at h
  ·rename_i b;cases h;exact⟨e,Ze _,by rw[YH];rfl,b,fun k n=>by omega⟩
  ·rename_i b;obtain⟨d,q,f,g,l⟩:=Ru h;refine⟨d,by omega,?_,g,fun k n=> ?_⟩
   ·rw[show j-i=(j-(i+1))+1 by omega,Z2];exact f
   ·cases k with
    |zero=>exact⟨e,rfl,by simpa using b⟩
    |succ k=>
     obtain⟨c,o,p⟩:=l k (by omega);exact⟨c,by rw[Z2];exact o,p⟩
def iV (fst:Bool)(qs:S')(j:Nat)(t:Qm):S':=match fst with
 |true=>qs
 |false=>match qs[j]? with
  |some q=>qs.set j (q++[t])
  |none=>qs
inductive cG (o:M')(sz1:Rat->Prop)(sz:Z'->Prop)(ok:P'->Prop)(ds:List Dv)(fst:Bool):Nat->Z'->S'->Z'->S'->Z'->Prop
 |done {qs:S'} {r:Z'}:cG o sz1 sz ok ds fst 0 [] qs r qs r
 |BF {n:Nat} {t:Qm} {p:Z'} {qs qs':S'} {r r':Z'} (hf:fst=false) (c2:sz r) (hn:TY t.2 ds 0=none) (h:cG o sz1 sz ok ds fst n p qs (r++[t]) qs' r'):cG o sz1 sz ok ds fst (n+1) (t::p) qs r qs' r'
 |BE {t:Qm} {p:Z'} {qs:S'} {r:Z'} (hf:fst=true) (c2:sz r) (hn:TY t.2 ds 0=none):cG o sz1 sz ok ds fst 1 (t::p) qs r qs (r++[t])
 |div {n j:Nat} {t:Qm} {d:Dv} {p:Z'} {qs qs':S'} {r r':Z'} (c1:sz p) (c3:sz1 t.1) (c4:sz1 d.1.1) (c5:sz1 (XZ t d.1).1) (c6:sz d.2.2.1) (c7:∀u∈d.2.2.1,ok (Xg u.2 (XZ t d.1).2)/\u.1≠0/\sz1 (-(XZ t d.1).1*u.1)) (c8:d.1.1≠0) (c9:(XZ t d.1).1≠0) (c10:∀q∈qs,sz q)
   (hj:TY t.2 ds 0=some j) (hd:ds[j]? =some d) (h:cG o sz1 sz ok ds fst n (TS o (-(XZ t d.1).1) (XZ t d.1).2 p d.2.2.1) (iV fst qs j (XZ t d.1)) r qs' r'):cG o sz1 sz ok ds fst (n+1) (t::p) qs r qs' r'
end Go.Num
namespace Go.Proofs.YtidginchkjhobaaGreat
open Go.Ev Go.Num
theorem gP {B:Xs}(v:Std B){m:P'}(x:XD m){g:I'}{k:List Dv}(j:ko g k)(n:Nat)(h:∀i,i<n->∃e,k[i]? =some e/\Wn e.1.2 m=false):XS B fun E _=>∀i,i<n->∃d,g[i]? =some d/\tG E m d:=by
 refine XS.all n fun i w=> ?_
 obtain⟨e,o,s⟩:=h i w;obtain⟨d,t,u⟩:=j.get i e o;obtain⟨a,b,c,f,p,r,rfl,q,l,z,A⟩:=u;have y:=yT v x l s;exact y.Xk.mono fun E K e1=>⟨_,t,_,_,_,_,_,_,_,_,rfl,l.1,e1⟩
theorem Cc {fst:Bool}{a:z'}{b:S'}(h:XB X5 a b){c:N'}{t:Qm}(g:W0 c t)(j:Nat):XB X5 (iU fst a j c) (iV fst b j t):=by
 cases fst with
 |true=>exact h
 |false=>
  unfold iU iV;cases d:b[j]? with
  |none=>
   have i:=h.length;have :a[j]? =none:=Yd (by rw[i];exact List.getElem?_eq_none_iff.1 d);simp only[this];exact h
  |some q=>
   obtain⟨x,e,f⟩:=h.get j q d;simp only[e];exact h.set j _ _ (f.append (.cons g .nil))
theorem Bj {B:Xs}(J:Std B){lo by_:PL}{l:Nat}(N:65535<=l){fst:Bool}{o:M'}(so:TR lo o)(ho:Vt o)(a0:o.length<1000000){z:I'}{ds:List Dv}(k:ko z ds){n:Nat}{left:Z'}{L D:S'}{r S:Z'}(h:cG o Sq QO XD ds fst n left L r D S):
  ∀(f:I') (u:z') (F:I'),X5 f left->XB X5 u L->X5 F r->∃g s,(XS B fun E _=>pA E lo by_ l fst z n f u F g s)/\XB X5 g D/\X5 s S:=by
 induction h with
 |done=>
  intro f u F I A C;cases I;exact⟨u,F,XS.of fun _ _=>.done,A,C⟩
 |@BF n t p L D r S hf T hn h ih=>
  intro f u F I A C;cases I with
  |@cons c _ f _ m H=>
   obtain⟨g,s,V,W,X⟩:=ih f u (F++[c]) H A (C.append (.cons m .nil));have v:∀d∈f,d.length=12:=fun d G=>QN.len (X5.bU H d G)
   have hl:=T.2;have a5:=C.length;have O:=gP J m.OK k z.length fun i y=>by
    rw[k.length]at y;exact⟨_,Zg y,Sc hn _ (YS y)⟩
   have Y:=m.OK.1;obtain⟨a,b,c',d',rfl,-,-⟩:=m;exact⟨g,s,(V.and O).mono fun E K ⟨e1,e2⟩=>.BF hf Y v (by omega) e2 e1,W,X⟩
 |@BE t p L r hf T hn=>
  intro f u F I A C;cases I with
  |@cons c _ f _ m H=>
   have v:∀d∈f,d.length=12:=fun d G=>QN.len (X5.bU H d G)
   have hl:=T.2;have a5:=C.length;have O:=gP J m.OK k z.length fun i y=>by
    rw[k.length]at y;exact⟨_,Zg y,Sc hn _ (YS y)⟩
   have Y:=m.OK.1;have pa:=C.append (.cons m .nil);obtain⟨a,b,c',d',rfl,-,-⟩:=m;exact⟨u,_,O.mono fun E K e2=>.BE hf Y v (by omega) e2,A,pa⟩
 |@div n j t d p L D r S c1 c3 c4 c5 c6 c7 c8 c9 c10 hj G h ih=>
  intro f u F I A C;cases I with
  |@cons c _ f _ m H=>
   have v:∀d∈f,d.length=12:=fun d G=>QN.len (X5.bU H d G)
   obtain⟨d',f1,U,f3,f4⟩:=Ru hj;rw[YW]at U f4;rw[G]at U;obtain rfl:=Option.some.inj U;have O:=gP J m.OK k j f4;obtain⟨dc,k1,k2⟩:=k.get j d G;have a7:=H.length;have l1:=c1.2;have l6:=c6.2;have Z:∀c∈u,c.length<1000000:=fun c hc=>by
    obtain⟨i,y⟩:=ZB.1 hc;have hl:=A.length;have M:i<L.length:=by rw[<-hl];exact(Zf.1 y).1
    obtain⟨x,q1,q2⟩:=A.get i _ (Zg M);rw[y]at q1;obtain rfl:=Option.some.inj q1;have:=(c10 _ (YS M)).2;have:=q2.length;omega
   obtain⟨a1,a2,a3,a4,pp,rr,rfl,q,Q,a8,a6⟩:=k2;have R:=m.OK;obtain⟨b1,b2,b3,b4,rfl,qt,-⟩:=m;obtain⟨e,v1,v2⟩:=BI J qt q c3 c4 c8;have v3:=bC J R Q f3;obtain⟨e1,e2,e3,e4,rfl⟩:=v2.len;have w:W0 (.bool e1::e2::.bool e3::e4::mo (XQ t.2 d.1.2)) (XZ t d.1):=W0.mk v2 (UG R Q);obtain⟨P,v4,v5⟩:=nH J (by_:=by_) (fst:=.bool fst) N so ho a0 w c5 c9 (lp:=.Xn f) ⟨_,.Xn,H⟩ c1.1 a6 c6.1 c7 (by omega) (by omega);obtain⟨g,s,V,W,X⟩:=ih P (iU fst u j _) F v5 (Cc A w j) C;exact⟨g,s,(V.and (O.and (v1.Xk.and (v3.Xk.and v4.Xk)))).mono fun E K ⟨z0,z1,z2,z3,z4⟩=>.div R.1 v k1 z1 (.mk Q.1 (UG R Q).1 z3 z2 z4) Z z0,W,X⟩
theorem OG {B:Xs}(r:eo B){lo by_ lp:PL}{l:Nat}(f:65535<=l){fst:Bool}{o:M'}(y:TR lo o)(v:Vt o)(g:o.length<1000000){b:I'}{c:List Dv}(u:Sl by_ b)(d:ko b c)(G:c.length<1000000){p:Z'}(I:PQ lp p)(F:SI p)(H:p.length<60000)
  {n:Nat} {a:S'} {x:Z'} (h:cG o Sq QO XD c fst n (Vz o p) (List.replicate c.length []) [] a x):
  ∃k m,Xu B 99 [.agg [lo,by_,LA l,.bool fst],.one lp] (.X9 [.one (.Xn (Xf k)),.one m,.one (.bool true)])/\VS k a/\PQ m x:=by
 obtain⟨O,D,A,N,E⟩:=SA r y v g I F H;have e:=d.length;have i:∀n,XB X5 (List.replicate n []) (List.replicate n []):=fun n=>by
  induction n with
  |zero=>exact .nil
  |succ n s=>exact .cons .nil s
 obtain⟨z,t,q,j,C⟩:=Bj r.toStd (by_:=by_) f y v g d h A (List.replicate c.length []) [] E (i _) .nil;rw[<-e]at q;obtain⟨k,m,w,L,M⟩:=oT r.toStd u (by omega) D N q;refine⟨k,m,w,?_,t,M,C⟩;clear w q h;induction L generalizing a with
 |nil=>cases j;exact .nil
 |cons J _ s=>cases j with |cons K j=>exact .cons ⟨_,J,K⟩ (s j)
end Go.Proofs.YtidginchkjhobaaGreat
namespace Go.Num
def OE:List Dv->S'->S'->S'
 |d::ds,q::qs,acc=>OE ds qs (acc.set d.2.2.2 (Vz [] q))
 |_,_,acc=>acc
theorem lT:∀(b:List Dv) (c a:S'),(OE b c a).length=a.length
 |[],_,_=>rfl
 |_::_,[],_=>rfl
 |d::b,q::c,a=>by rw[OE,lT];simp
end Go.Num
namespace Go.Proofs.YtidginchkjhobaaGreat
open Go.Ev Go.Num
theorem BW {B:Xs}(a:Std B):Xu B 145 [] (.one (.Xn [])):=by
 refine Xu.of (a.Wa _ _ rfl) (a.Xk.mono fun E K b=> ?_);simp(decide:=true)only[Xo,Xr,reduceIte,x145]
theorem xg:TR (.Xn []) []:=.Xn
theorem Df {E:Xa}{K k i n g:Nat}(v:E.mode=md){by_ rr N O:PL}{d:I'}(x:Sl by_ d)(W:d.length<1000000){r f:N'}{a b c e p q:PL}{m:P'}(z:d[i]? =some (SL a b c e m p q g))(A:m.length=8)(U:r[i]? =some N)(j:g<f.length)(V:f.length=n)
  (S:E.pure 145 []=some (.one (.Xn []))) (T:E.pure 140 [.one N,.one (.Xn [])]=some (.one O)) (y:Xx) (G:V'):
  ∃P,Xb E K 0 [10,11,13,37,38,39] x101_1 (k+1) ⟨[(10,.one (.p (.Xn (Xf r)))),(11,.one (.p rr)),(13,.one (.own 1 0 0 n)),(37,.one (.p by_)),(38,LB d.length),(39,LB i)],y::qB f::G⟩=
   Xb E K 0 [10,11,13,37,38,39] x101_1 k ⟨[(10,.one (.p (.Xn (Xf r)))),(11,.one (.p rr)),(13,.one (.own 1 0 0 n)),(37,.one (.p by_)),(38,LB d.length),(39,LB (i+1))],y::qB (f.set g O)::P⟩:=by
 subst V;have u:i<d.length:=(Zf.mp z).1;have B:=fun(t:HF) (w:IntKind)=>x.idx (h:=t) (k:=w) (sz:=15) z (by simp[SL,XF,A])
 have Z:Sl (.Xn (Xf r)) (Xf r):=.Xn;have X:=fun(t:HF) (w:IntKind)=>Z.idx (h:=t) (k:=w) (sz:=1) (XY U) rfl
 have R:Xe .i64 (.ofNat (i+1))=.ofNat (i+1):=wrap_i64 (by omega);obtain⟨C,D,F,H,I,J,L,M,rfl⟩:=eight A;have Q:mo [C,D,F,H,I,J,L,M]=[LA C,LA D,LA F,LA H,LA I,LA J,LA L,LA M]:=rfl;simp only[SL,Q,ZU,ZF]at B;obtain⟨Y,l⟩:∃o,f[g]? =some o:=⟨_,Zg j⟩;have s:=wJ l;apply Exists.intro;rw[Xb];simp(decide:=true)only[Xo,Xr,VR,Vx,reduceIte,Nat.reduceEqDiff,Nat.reduceLeDiff,Nat.reduceAdd,x101_1,v,X4,u,B,X,R,S,T,j,s,wI,WK,W8,Zm,Zw];rfl
inductive DI (E:Xa):I'->N'->N'->N'->Prop
 |done {lqs:N'}:DI E [] [] lqs lqs
 |next {a b c e p q li nq:PL} {m:P'} {at_:Nat} {dcs:I'} {ls lqs lqs':N'} (hm:m.length=8) (hat:at_<lqs.length) (h2:E.pure 140 [.one li,.one (.Xn [])]=some (.one nq)) (h:DI E dcs ls (lqs.set at_ nq) lqs'):DI E (SL a b c e m p q at_::dcs) (li::ls) lqs lqs'
theorem wA {B:Xs}(t:eo B):∀{k:I'} {s:List Dv},ko k s->∀{m:N'} {n:S'},VS m n->m.length=k.length->(∀q∈n,SI q/\q.length<60000)->∀{j:N'} {i:S'},VS j i->(∀d∈s,d.2.2.2<i.length)->
  ∃g,(XS B fun E _=>DI E k m j g)/\VS g (OE s n i)
 |_,_,.nil,m,n,l,hl,_,j,i,ha,_=>by
  cases l with
  |nil=>exact⟨j,XS.of fun _ _=>.done,ha⟩
  |cons _ _=>simp at hl
 |_,_,.cons (x:=dc) (y:=d) hd h,m,n,l,hl,hs,j,i,ha,hat=>by
  cases l with
  |nil=>simp at hl
  |@cons M q m n D l=>
   obtain⟨H,I⟩:=hs q (Zc ..);obtain⟨N,w,z⟩:=SA t xg (o:=[]) (fun _ h=>by cases h) (by simp) D H I;obtain⟨g,A,C⟩:=wA t h l (by simpa using hl) (fun q l=>hs q (Zb _ l)) (ha.set z d.2.2.2) (fun e F=>by rw[ZL];exact hat e (Zb _ F));have v:=ha.length;have u:=hat d (Zc ..);obtain⟨a,b,c,f,p,r,rfl,O,G,J,L⟩:=hd;exact⟨g,(w.Xk.and A).mono fun E K ⟨e1,e2⟩=>.next G.1 (by omega) e1 e2,C⟩
theorem Ho {E:Xa}{K n:Nat}(y:E.mode=md){by_ rr:PL}{d:I'}(C:Sl by_ d)(z:d.length<1000000){lsa:N'}(R:E.pure 145 []=some (.one (.Xn [])))(o:Xx){l:I'}{B f g:N'}(h:DI E l B f g):∀(i k:Nat) (G:V'),d.drop i=l->lsa.drop i=B->i+l.length=d.length->f.length=n->l.length<k->
  ∃j s,Xb E K 0 [10,11,13,37,38,39] x101_1 k ⟨[(10,.one (.p (.Xn (Xf lsa)))),(11,.one (.p rr)),(13,.one (.own 1 0 0 n)),(37,.one (.p by_)),(38,LB d.length),(39,LB i)],o::qB f::G⟩=some (.exit 0,⟨j,o::qB g::s⟩)/\(Xh j 11=some (.one (.p rr))/\Xh j 13=some (.one (.own 1 0 0 n)))/\g.length=n:=by
 induction h with
 |@done f=>
  intro i k G D H w r F;obtain⟨k,rfl⟩:∃A,k=A+1:=⟨k-1,by omega⟩;have x:¬i<d.length:=by simp at w;omega
  have :∃j,Xb E K 0 [10,11,13,37,38,39] x101_1 (k+1) ⟨[(10,.one (.p (.Xn (Xf lsa)))),(11,.one (.p rr)),(13,.one (.own 1 0 0 n)),(37,.one (.p by_)),(38,LB d.length),(39,LB i)],o::qB f::G⟩=some (.exit 0,⟨j,o::qB f::G⟩)/\(Xh j 11=some (.one (.p rr))/\Xh j 13=some (.one (.own 1 0 0 n))):=by
   apply VO
   ·rw[Xb];simp only[Xo,Xr,reduceIte,Nat.reduceEqDiff,x101_1,x];rfl
   ·simp only[Xo,reduceIte,Nat.reduceEqDiff,and_self]
  obtain⟨j,t,u⟩:=this;exact⟨j,G,t,u,r⟩
 |@next a b c e p q V W m J l B f g T v S h U=>
  intro i k G D H w r F;obtain⟨k,rfl⟩:∃A,k=A+1:=⟨k-1,by omega⟩;simp only[Zi]at w F;obtain⟨Q,M⟩:=Xi D;obtain⟨P,L⟩:=Xi H;obtain⟨I,t⟩:=Df (K:=K) (k:=k) (n:=n) (rr:=rr) y C z Q T P v r R S o G;obtain⟨j,s,u,N,O⟩:=U (i+1) k I M L (by omega) (by rw[ZL];exact r) (by omega);exact⟨j,s,t.trans u,N,O⟩
theorem rn {B:Xs}(i:eo B){lo L lp:PL}{o:M'}(V:TR lo o)(Q:Vt o)(u:o.length<1000000)(hv:Xu B 50 [.one lo] (.one (.bool true))){a:N'}{c:S'}(U:Sl L (Xf a))(r:VS a c)(D:∀f∈c,SI f/\f.length<60000)(hl:c.length<400000)
  {p:Z'} (hp:PQ lp p) (H:SI p) (k:p.length<60000) (G:(Vb o c 0).length<1000000) (C:∀d∈Vb o c 0,d.2.2.2<c.length)
  {n:Nat} {e:S'} {y:Z'} (h:cG o Sq QO XD (Vb o c 0) false n (Vz o p) (List.replicate (Vb o c 0).length []) [] e y) (hq:∀q∈e,SI q/\q.length<60000) (J:e.length=(Vb o c 0).length) (hr:SI y) (M:y.length<60000):
  ∃w x,Xu B 101 [.one lp,.one L,.one lo] (.X9 [.one (.Xn (Xf w)),.one x,.one (LA 0)])/\VS w (OE (Vb o c 0) e (List.replicate c.length []))/\PQ x (Vz [] y):=by
 obtain⟨by_,z,h1,m,A⟩:=P4 i V Q u U r D hl;obtain⟨ls,x,h3,P,h5⟩:=OG i (by_:=by_) (l:=65535) (by omega) V Q u m A G hp H k h;obtain⟨N,h6,h7⟩:=SA i xg (o:=[]) (fun _ h=>by cases h) (by simp) h5 hr M;have hx:=BW i.toStd;have v:∀n,VS (List.replicate n .Xq) (List.replicate n []):=fun n=>by
  induction n with
  |zero=>exact .nil
  |succ n ih=>exact .cons ⟨[],.nil,.nil⟩ ih
 have s:=r.length;have F:=A.length;obtain⟨b,g1,g2⟩:=wA i A P (by rw[P.length,J,F]) hq (v c.length) (fun d D=>by rw[YO];exact C d D);refine⟨b,N,Xu.of (i.Wa _ _ rfl) ((g1.and (h1.Xk.and (h3.Xk.and (h6.Xk.and (hx.Xk.and (hv.Xk.and (i.toStd.Xk.and (XS.ge (z.length+1))))))))).mono fun E K ⟨Y,e1,Z,e6,O,ev,t,hK⟩=> ?_),g2,h7⟩;obtain⟨T',G',S,⟨k2,k3⟩,T⟩:=Ho (K:=K) (n:=a.length) (rr:=x) t m (by omega) (lsa:=ls) O ⟨false,0,4,[[.p lo,.p by_,.p (LA 65535),.p (.bool false)]],false,135⟩ Y 0 K [] rfl rfl (by omega) (by rw[YO,s]) (by omega);have g:=U.len;rw[Xt]at g;have j:=m.len;have I:pc (Xf (List.replicate c.length .Xq))=List.replicate a.length [.p .Xq]:=by simp[pc,Xf,s]
 simp only[qB,I]at S;have W:24*a.length<=lim:=by unfold lim;omega
 have X:a.length<=9223372036854775807:=by omega
 have R:=WV (Xf b) (Ze _);have hf:=fun h=>Ve 5 h (Xf b)
 rw[Xt,T]at R;have k:(pc (Xf b)).length=a.length:=by rw[oi,T]
 simp(decide:=true)only[Xo,Xr,Vx,reduceIte,Nat.reduceAdd,Ze,x101,t,X4,g,j,e1,Z,e6,O,ev,W,X,S,k2,k3,R,hf,k]
end Go.Proofs.YtidginchkjhobaaGreat
