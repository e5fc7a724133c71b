/- Division: divide, the rounds over the divisors. -/
import Derived.Test.YtidginchkjhobaaGreatQDvs
set_option maxHeartbeats 16000000
set_option maxRecDepth 100000
namespace Go.Ev
open Go.Proofs.YtidginchkjhobaaGreat
theorem WG {H:V'}{i:Nat}{b:Xx}(h:H[i]? =some b)(X:V'):(H++X)[i]? =some b:=by grind
theorem je {H:V'}{i:Nat}(h:i<H.length)(X:V')(b:Xx):(H++X).set i b=H.set i b++X:=List.set_append_left _ _ h
abbrev Ut:P':=[0,0,0,0,0,0,0,0]
theorem Fg {E:Xa}{K k j n s:Nat}(o:E.mode=md){r:DL}{lp by_:PL}{d:Z'}(t:Sl by_ d)(R:d.length<1000000){a b c e p q:PL}{m m2:P'}{S:Nat}(w:d[j]? =some (S4 a b c e m2 p q S))(Q:m.length=8)(i:m2.length=8)
  (A:E.pure 62 [.agg (mo m),.agg (mo m2)]=some (.Wd [.agg (mo Ut),.one (.bool false)])) {x y z u:PL} {H:V'} (g:H[s]? =some (UO x y z u m)):
  ∃J,Xb E K 0 [2,7,8,9,10,32,33,34] x99_1 (k+1) ⟨[(2,.one (.ptr 0 0 0 0)),(7,.one (.own 1 0 0 n)),(8,.one r),(9,La4 lp),(10,.one (.ptr s 0 0 0)),(32,La4 by_),(33,La1 d.length),(34,La1 j)],H⟩=
   Xb E K 0 [2,7,8,9,10,32,33,34] x99_1 k ⟨[(2,.one (.ptr 0 0 0 0)),(7,.one (.own 1 0 0 n)),(8,.one r),(9,La4 lp),(10,.one (.ptr s 0 0 0)),(32,La4 by_),(33,La1 d.length),(34,La1 (j+1))],H++J⟩:=by
 have l:j<d.length:=(Zg.mp w).1;have B:=fun(P:HF) (T:IntKind)=>t.idx (h:=P) (k:=T) (sz:=15) w (by simp[S4,XI,i])
 have O:Xd .i64 (.ofNat (j+1))=.ofNat (j+1):=wrap_i64 (by omega);have U:(Xu m).take 8=Xu m:=Ze (by rw[Xc];omega);obtain⟨C,D,F,G,I,L,M,N,rfl⟩:=eight i;have f:=WG g;simp only[UO]at f g;have v:mo [C,D,F,G,I,L,M,N]=[La0 C,La0 D,La0 F,La0 G,La0 I,La0 L,La0 M,La0 N]:=rfl;have V:mo Ut=[La0 0,La0 0,La0 0,La0 0,La0 0,La0 0,La0 0,La0 0]:=rfl;rw[V,v]at A;simp only[S4,v,ZD,ZB]at B;apply Exists.intro;rw[Xb];simp+decide only[Xo,Xs,Vv,reduceIte,Nat.reduceAdd,x99_1,o,X3,l,B,O,A,f,Xc,Q,U,Wc,Wg,VM,V4,Wk,Wp,Zp,Zn,Zw];rfl
def SY (T:List (Nat×DV))(n:Nat)(r l:DL):Prop:=Xi T 2=some (.one (.ptr 0 0 0 0))/\Xi T 7=some (.one (.own 1 0 0 n))/\Xi T 8=some (.one r)/\Xi T 9=some (.one l)
theorem LL {a b:Type}{p q r:a->b->Prop}{x}{y}(h:p x y)(k:q x y)(l:r x y):∃x y,p x y/\q x y/\r x y:=⟨x,y,h,k,l⟩
theorem JT {a b:Type}{p q:a->b->Prop}{x}{y}(h:p x y)(k:q x y):∃x y,p x y/\q x y:=⟨x,y,h,k⟩
theorem Fj {E:Xa}{K k j n T l:Nat}(D:E.mode=md){r:DL}{lo by_:PL}{i es:Z'}{L:N'}(F:Sl by_ i)(a1:i.length<1000000){a b c e p q:PL}{m m2 g:P'}{ix:Nat}(Q:i[j]? =some (S4 a b c e m2 p q ix))(hm:m.length=8)(t:m2.length=8)(C:g.length=8)(w:∀d∈es,d.length=12)
  {x y z u e1 e2 M N:PL} {f:Z'}
  (R:E.pure 62 [.agg (mo m),.agg (mo m2)]=some (.Wd [.agg (mo g),.one (.bool true)]))
  (A:E.pure 143 [.agg [x,y,z,u],.agg [a,b,c,e]]=some (.Wd [.agg [e1,e2,M,N],.one (La0 0)]))
  (v:E.pure 144 [.agg [lo,by_,La0 l,.bool true],.one (.Xl es),.agg (e1::e2::M::N::mo g),.one q]=some (.Wd [.one (.Xl f),.one (.bool true)]))
  {H:V'} (h0:H[0]? =some (RT lo by_ l (.bool true))) (s:H[T]? =some (UO x y z u m)):
  ∃I J,Xb E K 0 [2,7,8,9,10,32,33,34] x99_1 (k+1) ⟨[(2,.one (.ptr 0 0 0 0)),(7,.one (.own 1 0 0 n)),(8,.one r),(9,La4 (.Xl (L::es))),(10,.one (.ptr T 0 0 0)),(32,La4 by_),(33,La1 i.length),(34,La1 j)],H⟩=some (.exit 1,⟨I,H++J⟩)/\SY I n r (.p (.Xl f)):=by
 have B:j<i.length:=(Zg.mp Q).1;have S:=fun(hh:HF) (kd:IntKind)=>F.idx (h:=hh) (k:=kd) (sz:=15) Q (by simp[S4,XI,t])
 have tm:(Xu m).take 8=Xu m:=Ze (by rw[Xc];omega);have G:(Xu g).take 8=Xu g:=Ze (by rw[Xc];omega);have a0:(Xu g).drop 8=[]:=Zo (by rw[Xc];omega);have w3:=X0 g;have s1:=Ul (c:=L) (es:=es) w;obtain⟨U,V,W,X,Y,Z,k7,k8,rfl⟩:=eight t;have o:=WG s;have P:=WG h0;simp only[UO]at o s;simp only[RT]at P h0;have O:mo [U,V,W,X,Y,Z,k7,k8]=[La0 U,La0 V,La0 W,La0 X,La0 Y,La0 Z,La0 k7,La0 k8]:=rfl;rw[O]at R;simp only[S4,O,ZD,ZB]at S;apply JT
 ·rw[Xb];simp+decide only[Xo,Xs,VD,Vv,reduceIte,Nat.reduceEqDiff,Nat.reduceLeDiff,Nat.reduceAdd,x99_1,D,X3,B,S,s1,R,A,v,o,P,Wj,Xc,hm,C,tm,G,w3,Wc,Wg,VM,V4,Wk,Wp,Zp,Zn,Zw];rfl
 ·simp only[SY,Xo,reduceIte,Nat.reduceEqDiff,and_self]
theorem Fi {E:Xa}{K k j n it l:Nat}(N:E.mode=md){r:DL}{lo by_:PL}{o es:Z'}{R:N'}(O:Sl by_ o)(a1:o.length<1000000){a b c e p q:PL}{m m2 g:P'}{ix:Nat}(W:o[j]? =some (S4 a b c e m2 p q ix))(hm:m.length=8)(v:m2.length=8)(M:g.length=8)(D:∀d∈es,d.length=12)
  {x y z u e1 e2 B C:PL} {i:Z'}
  (Y:E.pure 62 [.agg (mo m),.agg (mo m2)]=some (.Wd [.agg (mo g),.one (.bool true)]))
  (I:E.pure 143 [.agg [x,y,z,u],.agg [a,b,c,e]]=some (.Wd [.agg [e1,e2,B,C],.one (La0 0)]))
  (w:E.pure 144 [.agg [lo,by_,La0 l,.bool false],.one (.Xl es),.agg (e1::e2::B::C::mo g),.one q]=some (.Wd [.one (.Xl i),.one (.bool true)]))
  {H:V'} (h0:H[0]? =some (RT lo by_ l (.bool false))) (t:H[it]? =some (UO x y z u m)) {f:K'} (U:H[1]? =some ⟨false,0,1,f,false,32⟩) (hn:f.length=n) (V:f[j]? =some [.p .Xp]):
  ∃Q J,Xb E K 0 [2,7,8,9,10,32,33,34] x99_1 (k+1) ⟨[(2,.one (.ptr 0 0 0 0)),(7,.one (.own 1 0 0 n)),(8,.one r),(9,La4 (.Xl (R::es))),(10,.one (.ptr it 0 0 0)),(32,La4 by_),(33,La1 o.length),(34,La1 j)],H⟩=some (.exit 1,⟨Q,H.set 1 ⟨false,0,1,f.set j [.own (H.length+4) 0 0 1],false,32⟩++J⟩)/\SY Q n r (.p (.Xl i))/\J[4]? =some (Rp 0 [e1::e2::B::C::mo g]):=by
 have L:j<o.length:=(Zg.mp W).1;have Z:=fun(hh:HF) (kd:IntKind)=>O.idx (h:=hh) (k:=kd) (sz:=15) W (by simp[S4,XI,v])
 have tm:(Xu m).take 8=Xu m:=Ze (by rw[Xc];omega);have P:(Xu g).take 8=Xu g:=Ze (by rw[Xc];omega);have a0:(Xu g).drop 8=[]:=Zo (by rw[Xc];omega);have w3:=X0 g;have s1:=Ul (c:=R) (es:=es) D;obtain⟨k1,k2,k3,k4,k5,k6,k7,k8,rfl⟩:=eight v;have s:=WG t;have T:=WG h0;simp only[UO]at s t;simp only[RT]at T h0;have S:mo [k1,k2,k3,k4,k5,k6,k7,k8]=[La0 k1,La0 k2,La0 k3,La0 k4,La0 k5,La0 k6,La0 k7,La0 k8]:=rfl;rw[S]at Y;simp only[S4,S,ZD,ZB]at Z;subst hn;have g1:=WG U;have G:j<f.length:=(Zg.mp V).1;have st:=fun X b=>je (H:=H) (Zg.1 U).1 X b
 have F:∀(n:Nat) (c:Y') (A:P'),W9 75 12 128 n [c] A=some ⟨.one (.own n 0 0 1),[⟨false,0,12,[c],false,75⟩],[],A⟩:=fun _ _ _=>rfl
 apply LL
 ·rw[Xb];simp+decide only[Xo,Xs,VD,Vv,reduceIte,Nat.reduceEqDiff,Nat.reduceLeDiff,Nat.reduceAdd,x99_1,N,X3,L,Z,s1,Y,I,w,s,T,Wj,Xc,hm,M,tm,P,w3,Wc,Wg,VM,V4,Wk,Wp,Zp,Zn,Zw,g1,G,V,st,F];rfl
 ·simp only[SY,Xo,reduceIte,Nat.reduceEqDiff,and_self]
 simp_all [pc,Wj]
theorem Fh {E:Xa}{K k j n it l:Nat}(R:E.mode=md){r:DL}{lo by_:PL}{s es:Z'}{W:N'}(S:Sl by_ s)(a2:s.length<1000000){a b c e p q:PL}{m m2 g:P'}{ix:Nat}(hj:s[j]? =some (S4 a b c e m2 p q ix))(hm:m.length=8)(C:m2.length=8)(Q:g.length=8)(M:∀d∈es,d.length=12)
  {x y z u e1 e2 F G:PL} {o:Z'}
  (hq:E.pure 62 [.agg (mo m),.agg (mo m2)]=some (.Wd [.agg (mo g),.one (.bool true)]))
  (O:E.pure 143 [.agg [x,y,z,u],.agg [a,b,c,e]]=some (.Wd [.agg [e1,e2,F,G],.one (La0 0)]))
  (D:E.pure 144 [.agg [lo,by_,La0 l,.bool false],.one (.Xl es),.agg (e1::e2::F::G::mo g),.one q]=some (.Wd [.one (.Xl o),.one (.bool true)]))
  {H:V'} (h0:H[0]? =some (RT lo by_ l (.bool false))) (w:H[it]? =some (UO x y z u m)) {f:K'} (h1:H[1]? =some ⟨false,0,1,f,false,32⟩) (hn:f.length=n) {id v:Nat} {qs:Z'} (hc:f[j]? =some [.own id v 0 qs.length]) (A:H[id]? =some (Rp v qs)) (a4:2<=id) (a3:qs.length<1000000):
  ∃V J,Xb E K 0 [2,7,8,9,10,32,33,34] x99_1 (k+1) ⟨[(2,.one (.ptr 0 0 0 0)),(7,.one (.own 1 0 0 n)),(8,.one r),(9,La4 (.Xl (W::es))),(10,.one (.ptr it 0 0 0)),(32,La4 by_),(33,La1 s.length),(34,La1 j)],H⟩=some (.exit 1,⟨V,(H.set id (Rp (v+1) (qs++[e1::e2::F::G::mo g]))).set 1 ⟨false,0,1,f.set j [.own id (v+1) 0 (qs++[e1::e2::F::G::mo g]).length],false,32⟩++J⟩)/\SY V n r (.p (.Xl o)):=by
 have P:j<s.length:=(Zg.mp hj).1;have ip:=fun(hh:HF) (kd:IntKind)=>S.idx (h:=hh) (k:=kd) (sz:=15) hj (by simp[S4,XI,C])
 have tm:(Xu m).take 8=Xu m:=Ze (by rw[Xc];omega);have U:(Xu g).take 8=Xu g:=Ze (by rw[Xc];omega);have a1:(Xu g).drop 8=[]:=Zo (by rw[Xc];omega);have w3:=X0 g;have s1:=Ul (c:=W) (es:=es) M;obtain⟨k1,k2,k3,k4,k5,k6,k7,k8,rfl⟩:=eight C;have t:=WG w;have Z:=WG h0;simp only[UO]at t w;simp only[RT]at Z h0;have Y:mo [k1,k2,k3,k4,k5,k6,k7,k8]=[La0 k1,La0 k2,La0 k3,La0 k4,La0 k5,La0 k6,La0 k7,La0 k8]:=rfl;rw[Y]at hq;simp only[S4,Y,ZD,ZB]at ip;subst hn;have g1:=WG h1;have N:j<f.length:=(Zg.mp hc).1;have B:id<H.length:=(Zg.1 A).1;have st:=fun X b=>je (H:=H) B X b
 have T:=fun X b b'=>je (H:=H.set id b) (i:=1) (by grind) X b'
 have I:∀(X:V') b,(H.set id b++X)[1]? =some ⟨false,0,1,f,false,32⟩:=fun X b=>WG (by grind) X
 have L:=WG A;have f2:(qs.length+1)*128<=lim:=by unfold lim;omega
 have f3:qs.length+1<=9223372036854775807:=by omega
 have c1:(id=1)=False:=by simp;omega
 have a0:(id=0)=False:=by simp;omega
 have c2:∀x,(H.length+x<=id)=False:=fun x=>by simp;omega
 have c3:(H.length<=id)=False:=by simp;omega
 have c4:∀x,(id=H.length+x)=False:=fun x=>by simp;omega
 have c5:∀x,(H.length+x=id)=False:=fun x=>by simp;omega
 have c6:(1=id)=False:=by simp;omega
 apply JT
 ·rw[Xb];simp+decide only[Xo,Xs,VD,Vv,reduceIte,Nat.reduceEqDiff,Nat.reduceLeDiff,Nat.reduceAdd,x99_1,R,X3,P,ip,s1,hq,O,D,t,Z,Wj,Xc,hm,Q,tm,U,w3,Wc,Wg,VM,V4,Wk,Wp,Zp,Zn,Zw,g1,N,hc,st,T,I,L,f2,f3,c2,c4,WB,VR,Yi];rfl
 ·simp only[SY,Xo,reduceIte,Nat.reduceEqDiff,and_self]
abbrev dL:=Option (Nat×Nat×Z')
def iV:dL->DL
 |none=>.p .Xp
 |some (id,v,es)=>.own id v 0 es.length
def Co:dL->Z'
 |none=>[]
 |some (_,_,es)=>es
abbrev TM (xs:List dL):K':=xs.map fun x=>[iV x]
abbrev Jn (c:K'):Xx:=⟨false,0,1,c,false,32⟩
structure gA (lo by_:PL)(l:Nat)(fst:Bool)(H:V')(r:dL)(xs:List dL):Prop where
 z0:H[0]? =some (RT lo by_ l (.bool fst))
 z1:H[1]? =some (Jn (TM xs))
 own:∀(i id v:Nat) (es:Z'),(r::xs)[i]? =some (some (id,v,es))->H[id]? =some (Rp v es)/\2<=id
 inj:∀(i j id v:Nat) (es:Z') (v':Nat) (es':Z'),(r::xs)[i]? =some (some (id,v,es))->(r::xs)[j]? =some (some (id,v',es'))->i=j
variable {lo by_:PL}{l:Nat}{fst:Bool}{H:V'}{r:dL}{xs:List dL}
theorem gA.app (h:gA lo by_ l fst H r xs)(J:V'):gA lo by_ l fst (H++J) r xs:=
 ⟨WG h.z0 J,WG h.z1 J,fun i id v a b=>⟨WG (h.own i id v a b).1 J,(h.own i id v a b).2⟩,h.inj⟩
theorem gA.lt (h:gA lo by_ l fst H r xs){i id v:Nat}{a:Z'}(b:(r::xs)[i]? =some (some (id,v,a))):id<H.length:=(Zg.1 (h.own i id v a b).1).1
theorem gA.MV (h:gA lo by_ l fst H r xs):1<H.length:=(Zg.1 h.z1).1
theorem gA.mk' {c}{g}{a}(e:c=g::a)(k:H[0]? =some (RT lo by_ l (.bool fst)))(m:H[1]? =some (Jn (TM a)))
  (f:∀(i id v:Nat) (b:Z'),c[i]? =some (some (id,v,b))->H[id]? =some (Rp v b)/\2<=id) (inj:∀(i j id v:Nat) (b:Z') (h:Nat) (d:Z'),c[i]? =some (some (id,v,b))->c[j]? =some (some (id,h,d))->i=j):gA lo by_ l fst H g a:=by
 subst e;exact⟨k,m,f,inj⟩
theorem gA.grow (h:gA lo by_ l fst H r xs){p id v:Nat}{es:Z'}(n:(r::xs)[p]? =some (some (id,v,es)))(q:Nat)(k:Z'){r':dL}{xs':List dL}(e:(r::xs).set p (some (id,q,k))=r'::xs'){H':V'}
  (u:∀i,i≠1->H'[i]? =(H.set id (Rp q k))[i]?) (t:H'[1]? =some (Jn (TM xs'))):gA lo by_ l fst H' r' xs':=by
 have w:=h.own p id v es n;have z:=h.lt n;refine gA.mk' e ?_ t ?_ ?_
 ·rw[u 0 (by omega),ZY (by omega)];exact h.z0
 ·intro i g o c a;rw[List.getElem?_set]at a;by_cases b:p=i
  ·grind
  ·rw[if_neg b]at a;have y:=h.own i g o c a;have x:id≠g:=fun e=>b (by subst e;exact h.inj p i id v es o c n a)
   grind
 ·intro i j g o c s m a f;rw[List.getElem?_set]at a f;by_cases b:p=i
  ·by_cases d:p=j
   ·omega
   ·rw[if_pos b]at a;rw[if_neg d]at f;split at a
    ·simp only[Zb,Zq]at a;obtain⟨rfl,rfl,rfl⟩:=a;exact absurd (h.inj p j id v es s m n f) d
    ·cases a
  ·rw[if_neg b]at a;by_cases d:p=j
   ·rw[if_pos d]at f;split at f
    ·simp only[Zb,Zq]at f;obtain⟨rfl,rfl,rfl⟩:=f;exact absurd (h.inj i p id o c v es a n) (fun e=>b e.symm)
    ·cases f
   ·rw[if_neg d]at f;exact h.inj i j g o c s m a f
theorem gA.new (h:gA lo by_ l fst H r xs){p id:Nat}(w:(r::xs)[p]? =some none){v:Nat}{es:Z'}{r':dL}{xs':List dL}(e:(r::xs).set p (some (id,v,es))=r'::xs'){H':V'}
  (o:∀i,i≠1->i<H.length->H'[i]? =H[i]?) (n:H'[1]? =some (Jn (TM xs'))) (q:H.length<=id) (u:H'[id]? =some (Rp v es)):gA lo by_ l fst H' r' xs':=by
 have x:=h.MV;refine gA.mk' e ?_ n ?_ ?_
 ·rw[o 0 (by omega) (by omega)];exact h.z0
 ·intro i f m c a;rw[List.getElem?_set]at a;by_cases b:p=i
  ·grind
  ·rw[if_neg b]at a;have t:=h.own i f m c a
   grind
 ·intro i j f m c s k a g;rw[List.getElem?_set]at a g;by_cases b:p=i
  ·by_cases d:p=j
   ·omega
   ·rw[if_pos b]at a;rw[if_neg d]at g;have:=h.lt g
    grind
  ·rw[if_neg b]at a;have:=h.lt a;by_cases d:p=j
   ·grind
   ·rw[if_neg d]at g;exact h.inj i j f m c s k a g
def vm (E:Xa)(m:P')(d:N'):Prop:=∃a b c e m2 p q ix,d=S4 a b c e m2 p q ix/\m2.length=8/\E.pure 62 [.agg (mo m),.agg (mo m2)]=some (.Wd [.agg (mo Ut),.one (.bool false)])
inductive Ks (E:Xa)(lo by_:PL)(l:Nat)(fst:Bool)(x y z u:PL)(m:P')(es:Z'):N'->N'->Z'->Prop
 |mk {a b c e p q e1 e2 e3 e4:PL} {m2 m3:P'} {ix:Nat} {outs:Z'} (hm2:m2.length=8) (hm3:m3.length=8)
  (hq:E.pure 62 [.agg (mo m),.agg (mo m2)]=some (.Wd [.agg (mo m3),.one (.bool true)]))
  (hdv:E.pure 143 [.agg [x,y,z,u],.agg [a,b,c,e]]=some (.Wd [.agg [e1,e2,e3,e4],.one (La0 0)]))
  (hsub:E.pure 144 [.agg [lo,by_,La0 l,.bool fst],.one (.Xl es),.agg (e1::e2::e3::e4::mo m3),.one q]=some (.Wd [.one (.Xl outs),.one (.bool true)])):
   Ks E lo by_ l fst x y z u m es (S4 a b c e m2 p q ix) (e1::e2::e3::e4::mo m3) outs
abbrev Hp (n:Nat)(r:DL)(lp by_:PL)(it nd j:Nat):List (Nat×DV):=[(2,.one (.ptr 0 0 0 0)),(7,.one (.own 1 0 0 n)),(8,.one r),(9,La4 lp),(10,.one (.ptr it 0 0 0)),(32,La4 by_),(33,La1 nd),(34,La1 j)]
theorem df {E:Xa}{K n it:Nat}(g:E.mode=md){r:DL}{lp by_:PL}{f:Z'}(l:Sl by_ f)(h:f.length<1000000){m:P'}(t:m.length=8){x y z u:PL}:∀(c i k:Nat) (H:V'),(∀j,i<=j->j<i+c->∃d,f[j]? =some d/\vm E m d)->H[it]? =some (UO x y z u m)->
  ∃J,Xb E K 0 [2,7,8,9,10,32,33,34] x99_1 (k+c) ⟨Hp n r lp by_ it f.length i,H⟩=Xb E K 0 [2,7,8,9,10,32,33,34] x99_1 k ⟨Hp n r lp by_ it f.length (i+c),H++J⟩
 |0,i,k,H,_,_=>⟨[],by grind⟩
 |c+1,i,k,H,hs,h10=>by
  obtain⟨d,B,a,b,D,e,m2,p,q,I,rfl,s,C⟩:=hs i (Zf _) (by omega);obtain⟨o,w⟩:=Fg (K:=K) (k:=k+c) (n:=n) (r:=r) (lp:=lp) g l h B t s C h10;obtain⟨v,A⟩:=df g l h t c (i+1) k (H++o) (fun j F G=>hs j (by omega) (by omega)) (WG h10 o);refine⟨o++v,?_⟩;rw[<-Zp,show i+(c+1)=i+1+c by omega];exact w.trans A
theorem zA {E}{K k n it}{r}{lp by_}{nd}(H):
  ∃a,Xb E K 0 [2,7,8,9,10,32,33,34] x99_1 (k+1) ⟨Hp n r lp by_ it nd nd,H⟩=some (.exit 2,⟨a,H⟩)/\SY a n r (.p lp)/\Xi a 10=some (.one (.ptr it 0 0 0)):=by
 apply VW
 ·rw[Xb];simp only[Xo,Xs,reduceIte,Nat.reduceEqDiff,x99_1,Zx];rfl
 ·simp only[SY,Xo,reduceIte,Nat.reduceEqDiff,and_self]
theorem B4 {xs:List dL}{j:Nat}{x:dL}(h:xs[j]? =some x):(TM xs)[j]? =some [iV x]:=by simp[TM,h]
theorem oI (xs)(j)(x):(TM xs).set j [iV x]=TM (xs.set j x):=by grind [List.map_set]
def jM (fst:Bool)(cs:List Z')(j:Nat)(t:N'):List Z':=match fst with
 |true=>cs
 |false=>match cs[j]? with
  |some q=>cs.set j (q++[t])
  |none=>cs
theorem HK {E:Xa}{K k j Y:Nat}(B:E.mode=md){I es:Z'}{c0:N'}(D:Sl by_ I)(C:I.length<1000000)(a0:xs.length=I.length){m:P'}{x y z u:PL}{d o:N'}{g:Z'}(Q:I[j]? =some d)(T:m.length=8)(w:∀d∈es,d.length=12)
  (hd:Ks E lo by_ l fst x y z u m es d o g) (s:H[Y]? =some (UO x y z u m)) (f:gA lo by_ l fst H r xs) (Z:∀x∈xs,(Co x).length<1000000):
  ∃h V F,Xb E K 0 [2,7,8,9,10,32,33,34] x99_1 (k+1) ⟨Hp xs.length (iV r) (.Xl (c0::es)) by_ Y I.length j,H⟩=some (.exit 1,⟨h,V⟩)/\SY h xs.length (iV r) (.p (.Xl g))/\gA lo by_ l fst V r F/\F.map Co=jM fst (xs.map Co) j o/\F.length=xs.length:=by
 obtain @⟨a,b,c,e,p,q,e1,e2,e3,e4,m2,m3,ix,g,hm2,hm3,hq,hdv,hsub⟩:=hd;have R:j<xs.length:=by grind
 cases fst with
 |true=>
  obtain⟨h,J,L,M⟩:=Fj (K:=K) (k:=k) (n:=xs.length) (r:=iV r) B D C Q T hm2 hm3 w hq hdv hsub f.z0 s;exact⟨h,_,xs,L,M,f.app J,rfl,rfl⟩
 |false=>
  obtain⟨x,X⟩:∃x,xs[j]? =some x:=⟨_,Zd R⟩;have P:=B4 X;have N:(TM xs).length=xs.length:=by simp
  have A:(r::xs)[j+1]? =some x:=by grind
  have O:∀t,jM false (xs.map Co) j t=(xs.map Co).set j (Co x++[t]):=fun t=>by
   grind [jM]
  cases x with
  |none=>
   obtain⟨h,J,L,M,g3⟩:=Fi (K:=K) (k:=k) (n:=xs.length) (r:=iV r) B D C Q T hm2 hm3 w hq hdv hsub f.z0 s f.z1 N P;refine⟨h,_,_,L,M,f.new (p:=j+1) (id:=H.length+4) (v:=0) (es:=[e1::e2::e3::e4::mo m3]) A (r':=r) (by rw[YK]) (fun i hi hl=> ?_) ?_ (by omega) ?_,?_,by rw[Yi]⟩
   ·grind
   ·rw[Z9 (by rw[Yi];exact f.MV),List.getElem?_set_self f.MV,<-oI];rfl
   ·grind
   ·rw[O,List.map_set];rfl
  |some q=>
   obtain⟨id,v,G⟩:=q;have W:=f.own (j+1) id v G A;have U:=Z _ (Zh X);obtain⟨h,J,L,M⟩:=Fh (K:=K) (k:=k) (n:=xs.length) (r:=iV r) B D C Q T hm2 hm3 w hq hdv hsub f.z0 s f.z1 N (id:=id) (v:=v) (qs:=G) P W.1 W.2 U;have S:1<(H.set id (Rp (v+1) (G++[e1::e2::e3::e4::mo m3]))).length:=by grind
   refine⟨h,_,_,L,M,f.app J|>.grow (p:=j+1) (id:=id) (v:=v) (es:=G) A (v+1) (G++[e1::e2::e3::e4::mo m3]) (r':=r) (by rw[YK]) (fun i hi=> ?_) ?_,?_,by rw[Yi]⟩
   ·grind
   ·rw[Z9 (by grind),List.getElem?_set_self S,<-oI];rfl
   ·rw[O,List.map_set];rfl
theorem BX {E:Xa}{K k n l:Nat}(L:E.mode=md){lo by_:PL}{g es:Z'}(t:Sl by_ g)(M:g.length<1000000){m:P'}(B:m.length=8)(o:∀d∈es,d.length=12){x y z u:PL}{H b:V'}{T:List (Nat×DV)}
  (F:H[0]? =some (RT lo by_ l (.bool false))) (C:Xb E K 0 [2,7,8,9,10,32,33,34] x99_1 K ⟨Hp n (.p .Xp) (.Xl ((x::y::z::u::mo m)::es)) by_ H.length g.length 0,H++[UO x y z u m]⟩=some (.exit 2,⟨T,b⟩)) (s:SY T n (.p .Xp) (.p (.Xl ((x::y::z::u::mo m)::es)))) (N:Xi T 10=some (.one (.ptr H.length 0 0 0)))
  (a:b[H.length]? =some (UO x y z u m)) (G:b[0]? =some (RT lo by_ l (.bool false))):
  ∃J,Xb E K 0 [2,7,8,9] x99_2 (k+1) ⟨[(2,.one (.ptr 0 0 0 0)),(7,.one (.own 1 0 0 n)),(8,La4 .Xp),(9,La4 (.Xl ((x::y::z::u::mo m)::es)))],H⟩=Xb E K 0 [2,7,8,9] x99_2 k ⟨[(2,.one (.ptr 0 0 0 0)),(7,.one (.own 1 0 0 n)),(8,.one (.own (b.length+1) 0 0 1)),(9,La4 (.Xl es))],b++J⟩/\J[1]? =some (Rp 0 [x::y::z::u::mo m]):=by
 obtain⟨R,S,U,V⟩:=s;have D:Sl (.Xl ((x::y::z::u::mo m)::es)) _:=.Xl;have e:=D.len;have O:=fun(I:HF) (P:IntKind)=>D.idx (h:=I) (k:=P) (i:=0) (sz:=12) rfl (by simp[XI,B])
 have Q:=Ul (c:=x::y::z::u::mo m) (es:=es) o;have W:(Xu m).take 8=Xu m:=Ze (by rw[Xc];omega);have X:(Xu m).drop 8=[]:=Zo (by rw[Xc];omega);have w:=X0 m;have v:=WG F;have A:=WG G;have j:=WG a;have r:=t.len;simp only[UO]at j a C;simp only[RT]at v F A G;have q:∀(n:Nat) (c:Y') (f:P'),W9 75 12 128 n [c] f=some ⟨.one (.own n 0 0 1),[⟨false,0,12,[c],false,75⟩],[],f⟩:=fun _ _ _=>rfl
 apply Exists.intro;refine⟨?_,?_⟩
 ·rw[Xb];simp+decide only[Xo,Xs,reduceIte,Nat.reduceAdd,x99_2,Wj,Xc,Wk,Wp,Zp,Zn,Zw,Yu,e,O,Q,W,v,A,a,r,C,R,S,U,V,N,B,q];rfl
 simp_all [pc,Wj]
theorem BW {E:Xa}{K k n l:Nat}(M:E.mode=md){lo by_:PL}{j es:Z'}(v:Sl by_ j)(N:j.length<1000000){m:P'}(C:m.length=8)(q:∀d∈es,d.length=12){x y z u:PL}{H b:V'}{T:List (Nat×DV)}
  (G:H[0]? =some (RT lo by_ l (.bool true))) (D:Xb E K 0 [2,7,8,9,10,32,33,34] x99_1 K ⟨Hp n (.p .Xp) (.Xl ((x::y::z::u::mo m)::es)) by_ H.length j.length 0,H++[UO x y z u m]⟩=some (.exit 2,⟨T,b⟩)) (t:SY T n (.p .Xp) (.p (.Xl ((x::y::z::u::mo m)::es)))) (O:Xi T 10=some (.one (.ptr H.length 0 0 0)))
  (a:b[H.length]? =some (UO x y z u m)) (I:b[0]? =some (RT lo by_ l (.bool true))):
  ∃g J,Xb E K 0 [2,7,8,9] x99_2 (k+1) ⟨[(2,.one (.ptr 0 0 0 0)),(7,.one (.own 1 0 0 n)),(8,La4 .Xp),(9,La4 (.Xl ((x::y::z::u::mo m)::es)))],H⟩=some (.exit 0,⟨g,b++J⟩)/\(Xi g 7=some (.one (.own 1 0 0 n))/\Xi g 8=some (.one (.own (b.length+1) 0 0 1)))/\J[1]? =some (Rp 0 [x::y::z::u::mo m]):=by
 obtain⟨R,S,U,V⟩:=t;have F:Sl (.Xl ((x::y::z::u::mo m)::es)) _:=.Xl;have e:=F.len;have P:=fun(L:HF) (Q:IntKind)=>F.idx (h:=L) (k:=Q) (i:=0) (sz:=12) rfl (by simp[XI,C])
 have Y:=Ul (c:=x::y::z::u::mo m) (es:=es) q;have W:(Xu m).take 8=Xu m:=Ze (by rw[Xc];omega);have X:(Xu m).drop 8=[]:=Zo (by rw[Xc];omega);have w:=X0 m;have A:=WG G;have B:=WG I;have o:=WG a;have s:=v.len;simp only[UO]at o a D;simp only[RT]at A G B I;have r:∀(n:Nat) (c:Y') (f:P'),W9 75 12 128 n [c] f=some ⟨.one (.own n 0 0 1),[⟨false,0,12,[c],false,75⟩],[],f⟩:=fun _ _ _=>rfl
 apply LL
 ·rw[Xb];simp+decide only[Xo,Xs,reduceIte,Nat.reduceAdd,x99_2,Wj,Xc,Wk,Wp,Zp,Zn,Zw,Yu,e,P,W,A,B,a,s,D,R,S,U,V,O,C,r];rfl
 ·simp only[Xo,reduceIte,Nat.reduceEqDiff,and_self]
 simp_all [pc,Wj]
theorem BV {E:Xa}{K k n l:Nat}(S:E.mode=md){lo by_:PL}{q es:Z'}(C:Sl by_ q)(U:q.length<1000000){m:P'}(G:m.length=8)(t:∀d∈es,d.length=12){x y z u:PL}{H e:V'}{T:List (Nat×DV)}{id v:Nat}{a:Z'}(g:e[id]? =some (Rp v a))(V:a.length<1000000)
  (M:H[0]? =some (RT lo by_ l (.bool false))) (I:Xb E K 0 [2,7,8,9,10,32,33,34] x99_1 K ⟨Hp n (.own id v 0 a.length) (.Xl ((x::y::z::u::mo m)::es)) by_ H.length q.length 0,H++[UO x y z u m]⟩=some (.exit 2,⟨T,e⟩)) (B:SY T n (.own id v 0 a.length) (.p (.Xl ((x::y::z::u::mo m)::es)))) (W:Xi T 10=some (.one (.ptr H.length 0 0 0)))
  (f:e[H.length]? =some (UO x y z u m)) (N:e[0]? =some (RT lo by_ l (.bool false))):
  ∃J,Xb E K 0 [2,7,8,9] x99_2 (k+1) ⟨[(2,.one (.ptr 0 0 0 0)),(7,.one (.own 1 0 0 n)),(8,.one (.own id v 0 a.length)),(9,La4 (.Xl ((x::y::z::u::mo m)::es)))],H⟩=Xb E K 0 [2,7,8,9] x99_2 k ⟨[(2,.one (.ptr 0 0 0 0)),(7,.one (.own 1 0 0 n)),(8,.one (.own id (v+1) 0 (a++[x::y::z::u::mo m]).length)),(9,La4 (.Xl es))],e.set id (Rp (v+1) (a++[x::y::z::u::mo m]))++J⟩:=by
 obtain⟨s2,s7,s8,s9⟩:=B;have L:Sl (.Xl ((x::y::z::u::mo m)::es)) _:=.Xl;have o:=L.len;have Y:=fun(R:HF) (Z:IntKind)=>L.idx (h:=R) (k:=Z) (i:=0) (sz:=12) rfl (by simp[XI,G])
 have s1:=Ul (c:=x::y::z::u::mo m) (es:=es) t;have tm:(Xu m).take 8=Xu m:=Ze (by rw[Xc];omega);have dm:(Xu m).drop 8=[]:=Zo (by rw[Xc];omega);have w:=X0 m;have F:=WG M;have Q:=WG N;have r:=WG f;have A:=C.len;simp only[UO]at r f I;simp only[RT]at F M Q N;have st:=fun X b=>je (H:=e) (Zg.1 g).1 X b
 have s:=WG g;have O:(a.length+1)*128<=lim:=by unfold lim;omega
 have P:a.length+1<=9223372036854775807:=by omega
 have D:∀b X,id≠0->(e.set id b++X)[0]? =some ⟨false,0,4,[[.p lo,.p by_,.p (La0 l),.p (.bool false)]],false,135⟩:=fun b X h0=>WG (by grind) X
 have j:id≠0:=by
  grind
 apply Exists.intro;rw[Xb];simp+decide only[Xo,Xs,reduceIte,Nat.reduceAdd,x99_2,Wj,Xc,Wk,Wp,Zn,Zw,Yu,o,Y,s1,tm,F,f,A,I,s2,s7,s8,s9,W,G,st,s,O,P,WB,VR,D _ _ j];rfl
theorem BU {E:Xa}{K k n l:Nat}(U:E.mode=md){lo by_:PL}{r es:Z'}(D:Sl by_ r)(V:r.length<1000000){m:P'}(I:m.length=8)(A:∀d∈es,d.length=12){x y z u:PL}{H e:V'}{T:List (Nat×DV)}{id v:Nat}{a:Z'}(g:e[id]? =some (Rp v a))(W:a.length<1000000)
  (N:H[0]? =some (RT lo by_ l (.bool true))) (L:Xb E K 0 [2,7,8,9,10,32,33,34] x99_1 K ⟨Hp n (.own id v 0 a.length) (.Xl ((x::y::z::u::mo m)::es)) by_ H.length r.length 0,H++[UO x y z u m]⟩=some (.exit 2,⟨T,e⟩)) (C:SY T n (.own id v 0 a.length) (.p (.Xl ((x::y::z::u::mo m)::es)))) (Y:Xi T 10=some (.one (.ptr H.length 0 0 0)))
  (f:e[H.length]? =some (UO x y z u m)) (O:e[0]? =some (RT lo by_ l (.bool true))):
  ∃q J,Xb E K 0 [2,7,8,9] x99_2 (k+1) ⟨[(2,.one (.ptr 0 0 0 0)),(7,.one (.own 1 0 0 n)),(8,.one (.own id v 0 a.length)),(9,La4 (.Xl ((x::y::z::u::mo m)::es)))],H⟩=some (.exit 0,⟨q,e.set id (Rp (v+1) (a++[x::y::z::u::mo m]))++J⟩)/\(Xi q 7=some (.one (.own 1 0 0 n))/\Xi q 8=some (.one (.own id (v+1) 0 (a++[x::y::z::u::mo m]).length))):=by
 obtain⟨s2,s7,s8,s9⟩:=C;have M:Sl (.Xl ((x::y::z::u::mo m)::es)) _:=.Xl;have o:=M.len;have Z:=fun(S:HF) (kd:IntKind)=>M.idx (h:=S) (k:=kd) (i:=0) (sz:=12) rfl (by simp[XI,I])
 have s1:=Ul (c:=x::y::z::u::mo m) (es:=es) A;have tm:(Xu m).take 8=Xu m:=Ze (by rw[Xc];omega);have dm:(Xu m).drop 8=[]:=Zo (by rw[Xc];omega);have w:=X0 m;have G:=WG N;have R:=WG O;have s:=WG f;have B:=D.len;simp only[UO]at s f L;simp only[RT]at G N R O;have st:=fun X b=>je (H:=e) (Zg.1 g).1 X b
 have t:=WG g;have P:(a.length+1)*128<=lim:=by unfold lim;omega
 have Q:a.length+1<=9223372036854775807:=by omega
 have F:∀b X,id≠0->(e.set id b++X)[0]? =some ⟨false,0,4,[[.p lo,.p by_,.p (La0 l),.p (.bool true)]],false,135⟩:=fun b X h0=>WG (by grind) X
 have j:id≠0:=by
  grind
 apply JT
 ·rw[Xb];simp+decide only[Xo,Xs,reduceIte,Nat.reduceAdd,x99_2,Wj,Xc,Wk,Wp,Zn,Zw,Yu,o,Z,tm,G,f,B,L,s2,s7,s8,s9,Y,I,st,t,P,Q,WB,VR,F _ _ j];rfl
 ·simp only[Xo,reduceIte,Nat.reduceEqDiff,and_self,Zn]
