/- Division: divide, the rounds over the divisors. -/
import Derived.Test.YtidginchkjhobaaGreatQDvs
set_option maxHeartbeats 16000000
set_option maxRecDepth 100000
namespace Go.Proofs.YtidginchkjhobaaGreat
open Go.Ev Go.Num
theorem Wo {H:List Xz}{i:Nat}{b:Xz}(h:H[i]? =some b)(X:List Xz):(H++X)[i]? =some b:=by
 rw[ZB (Zb.1 h).1];exact h
theorem br {H:List Xz}{i:Nat}(h:i<H.length)(X:List Xz)(b:Xz):(H++X).set i b=H.set i b++X:=List.set_append_left _ _ h
abbrev Tp:List Nat:=[0,0,0,0,0,0,0,0]
theorem zQ {E:Xa}{K k j n s:Nat}(o:E.mode=md){r:DL}{lp by_:PL}{d:List (List PL)}(v:Sl by_ d)(S:d.length<1000000){a b c e p q:PL}{m t:List Nat}{T:Nat}(A:d[j]? =some (T8 a b c e t p q T))(R:m.length=8)(i:t.length=8)
  (B:E.pure 62 [.agg (mo m),.agg (mo t)]=some (.XZ [.agg (mo Tp),.one (.bool false)])) {x y z u:PL} {H:List Xz} (g:H[s]? =some (Uj x y z u m)):
  ∃J,Xb E K 0 [2,7,8,9,10,32,33,34] x99_1 (k+1) ⟨[(2,.one (.ptr 0 0 0 0)),(7,.one (.own 1 0 0 n)),(8,.one r),(9,.one (.p lp)),(10,.one (.ptr s 0 0 0)),(32,.one (.p by_)),(33,.one (.p (.int .i64 (.ofNat d.length)))),(34,.one (.p (.int .i64 (.ofNat j))))],H⟩=
   Xb E K 0 [2,7,8,9,10,32,33,34] x99_1 k ⟨[(2,.one (.ptr 0 0 0 0)),(7,.one (.own 1 0 0 n)),(8,.one r),(9,.one (.p lp)),(10,.one (.ptr s 0 0 0)),(32,.one (.p by_)),(33,.one (.p (.int .i64 (.ofNat d.length)))),(34,.one (.p (.int .i64 (.ofNat (j+1)))))],H++J⟩:=by
 have l:j<d.length:=(Zb.mp A).1;have C:=fun(Q:HF) (U:IntKind)=>v.idx (h:=Q) (k:=U) (sz:=15) A (by simp[T8,XI,i])
 have P:Xe .i64 (.ofNat (j+1))=.ofNat (j+1):=wrap_i64 (by omega);have V:(Xu m).take 8=Xu m:=Zd (by rw[Xc];omega);obtain⟨D,F,G,I,L,M,N,O,rfl⟩:=eight i;have f:=Wo g;simp only[Uj]at f g;have w:mo [D,F,G,I,L,M,N,O]=[.int .i64 (.ofNat D),.int .i64 (.ofNat F),.int .i64 (.ofNat G),.int .i64 (.ofNat I),.int .i64 (.ofNat L),.int .i64 (.ofNat M),.int .i64 (.ofNat N),.int .i64 (.ofNat O)]:=rfl;have W:mo Tp=[.int .i64 (.ofNat 0),.int .i64 (.ofNat 0),.int .i64 (.ofNat 0),.int .i64 (.ofNat 0),.int .i64 (.ofNat 0),.int .i64 (.ofNat 0),.int .i64 (.ofNat 0),.int .i64 (.ofNat 0)]:=rfl;rw[W,w]at B;simp only[T8,w,ZI,ZF]at C;apply Exists.intro;rw[Xb];simp(decide:=true)only[Xm,Xq,Vm,reduceIte,Nat.reduceAdd,x99_1,o,X5,l,C,P,B,f,Xc,R,V,Wb,Wf,W5,VD,We,Wg,Zq,Zk,Zt];rfl
def T4 (T:List (Nat×DV))(n:Nat)(r l:DL):Prop:=Xh T 2=some (.one (.ptr 0 0 0 0))/\Xh T 7=some (.one (.own 1 0 0 n))/\Xh T 8=some (.one r)/\Xh T 9=some (.one l)
theorem EW {a b:Type}{p q r:a->b->Prop}{x:a}{y:b}(h:p x y)(k:q x y)(l:r x y):∃x y,p x y/\q x y/\r x y:=⟨x,y,h,k,l⟩
theorem DE {a b:Type}{p q:a->b->Prop}{x:a}{y:b}(h:p x y)(k:q x y):∃x y,p x y/\q x y:=⟨x,y,h,k⟩
theorem zV {E:Xa}{K k j n U l:Nat}(D:E.mode=md){r:DL}{lo by_:PL}{i es:List (List PL)}{M:List PL}(G:Sl by_ i)(a1:i.length<1000000){a b c e p q:PL}{m F g:List Nat}{ix:Nat}(R:i[j]? =some (T8 a b c e F p q ix))(hm:m.length=8)(t:F.length=8)(C:g.length=8)(w:∀d∈es,d.length=12)
  {x y z u e1 e2 N O:PL} {f:List (List PL)}
  (S:E.pure 62 [.agg (mo m),.agg (mo F)]=some (.XZ [.agg (mo g),.one (.bool true)]))
  (A:E.pure 143 [.agg [x,y,z,u],.agg [a,b,c,e]]=some (.XZ [.agg [e1,e2,N,O],.one (.int .i64 (.ofNat 0))]))
  (v:E.pure 144 [.agg [lo,by_,.int .i64 (.ofNat l),.bool true],.one (.Xp es),.agg (e1::e2::N::O::mo g),.one q]=some (.XZ [.one (.Xp f),.one (.bool true)]))
  {H:List Xz} (h0:H[0]? =some (S5 lo by_ l (.bool true))) (s:H[U]? =some (Uj x y z u m)):
  ∃L J,Xb E K 0 [2,7,8,9,10,32,33,34] x99_1 (k+1) ⟨[(2,.one (.ptr 0 0 0 0)),(7,.one (.own 1 0 0 n)),(8,.one r),(9,.one (.p (.Xp (M::es)))),(10,.one (.ptr U 0 0 0)),(32,.one (.p by_)),(33,.one (.p (.int .i64 (.ofNat i.length)))),(34,.one (.p (.int .i64 (.ofNat j))))],H⟩=some (.exit 1,⟨L,H++J⟩)/\T4 L n r (.p (.Xp f)):=by
 have B:j<i.length:=(Zb.mp R).1;have T:=fun(hh:HF) (kd:IntKind)=>G.idx (h:=hh) (k:=kd) (sz:=15) R (by simp[T8,XI,t])
 have tm:(Xu m).take 8=Xu m:=Zd (by rw[Xc];omega);have I:(Xu g).take 8=Xu g:=Zd (by rw[Xc];omega);have a0:(Xu g).drop 8=[]:=Zm (by rw[Xc];omega);have w3:=XT g;have s1:=VP (c:=M) (es:=es) w;obtain⟨V,W,X,Y,Z,k6,k7,k8,rfl⟩:=eight t;have o:=Wo s;have Q:=Wo h0;simp only[Uj]at o s;simp only[S5]at Q h0;have P:mo [V,W,X,Y,Z,k6,k7,k8]=[.int .i64 (.ofNat V),.int .i64 (.ofNat W),.int .i64 (.ofNat X),.int .i64 (.ofNat Y),.int .i64 (.ofNat Z),.int .i64 (.ofNat k6),.int .i64 (.ofNat k7),.int .i64 (.ofNat k8)]:=rfl;rw[P]at S;simp only[T8,P,ZI,ZF]at T;apply DE
 ·rw[Xb];simp(decide:=true)only[Xm,Xq,Vg,Vm,reduceIte,Nat.reduceEqDiff,Nat.reduceLeDiff,Nat.reduceAdd,x99_1,D,X5,B,T,s1,S,A,v,o,Q,Wk,Xc,hm,C,tm,I,w3,Wb,Wf,W5,VD,We,Wg,Zq,Zk,Zt];rfl
 ·simp only[T4,Xm,reduceIte,Nat.reduceEqDiff,and_self]
theorem zU {E:Xa}{K k j n it l:Nat}(N:E.mode=md){r:DL}{lo by_:PL}{o es:List (List PL)}{S:List PL}(P:Sl by_ o)(a1:o.length<1000000){a b c e p q:PL}{m O g:List Nat}{ix:Nat}(Y:o[j]? =some (T8 a b c e O p q ix))(hm:m.length=8)(v:O.length=8)(M:g.length=8)(D:∀d∈es,d.length=12)
  {x y z u e1 e2 B C:PL} {i:List (List PL)}
  (Z:E.pure 62 [.agg (mo m),.agg (mo O)]=some (.XZ [.agg (mo g),.one (.bool true)]))
  (I:E.pure 143 [.agg [x,y,z,u],.agg [a,b,c,e]]=some (.XZ [.agg [e1,e2,B,C],.one (.int .i64 (.ofNat 0))]))
  (w:E.pure 144 [.agg [lo,by_,.int .i64 (.ofNat l),.bool false],.one (.Xp es),.agg (e1::e2::B::C::mo g),.one q]=some (.XZ [.one (.Xp i),.one (.bool true)]))
  {H:List Xz} (h0:H[0]? =some (S5 lo by_ l (.bool false))) (t:H[it]? =some (Uj x y z u m)) {f:List (List DL)} (V:H[1]? =some ⟨false,0,1,f,false,32⟩) (hn:f.length=n) (W:f[j]? =some [.p .XC]):
  ∃R J,Xb E K 0 [2,7,8,9,10,32,33,34] x99_1 (k+1) ⟨[(2,.one (.ptr 0 0 0 0)),(7,.one (.own 1 0 0 n)),(8,.one r),(9,.one (.p (.Xp (S::es)))),(10,.one (.ptr it 0 0 0)),(32,.one (.p by_)),(33,.one (.p (.int .i64 (.ofNat o.length)))),(34,.one (.p (.int .i64 (.ofNat j))))],H⟩=some (.exit 1,⟨R,H.set 1 ⟨false,0,1,f.set j [.own (H.length+4) 0 0 1],false,32⟩++J⟩)/\T4 R n r (.p (.Xp i))/\J[4]? =some (T7 0 [e1::e2::B::C::mo g]):=by
 have L:j<o.length:=(Zb.mp Y).1;have ip:=fun(hh:HF) (kd:IntKind)=>P.idx (h:=hh) (k:=kd) (sz:=15) Y (by simp[T8,XI,v])
 have tm:(Xu m).take 8=Xu m:=Zd (by rw[Xc];omega);have Q:(Xu g).take 8=Xu g:=Zd (by rw[Xc];omega);have a0:(Xu g).drop 8=[]:=Zm (by rw[Xc];omega);have w3:=XT g;have s1:=VP (c:=S) (es:=es) D;obtain⟨k1,k2,k3,k4,k5,k6,k7,k8,rfl⟩:=eight v;have s:=Wo t;have U:=Wo h0;simp only[Uj]at s t;simp only[S5]at U h0;have T:mo [k1,k2,k3,k4,k5,k6,k7,k8]=[.int .i64 (.ofNat k1),.int .i64 (.ofNat k2),.int .i64 (.ofNat k3),.int .i64 (.ofNat k4),.int .i64 (.ofNat k5),.int .i64 (.ofNat k6),.int .i64 (.ofNat k7),.int .i64 (.ofNat k8)]:=rfl;rw[T]at Z;simp only[T8,T,ZI,ZF]at ip;subst hn;have g1:=Wo V;have G:j<f.length:=(Zb.mp W).1;have st:=fun X b=>br (H:=H) (Zb.1 V).1 X b
 have F:∀(n:Nat) (c:List DL) (A:List Nat),WQ 75 12 128 n [c] A=some ⟨.one (.own n 0 0 1),[⟨false,0,12,[c],false,75⟩],[],A⟩:=fun _ _ _=>rfl
 apply EW
 ·rw[Xb];simp(decide:=true)only[Xm,Xq,Vg,Vm,reduceIte,Nat.reduceEqDiff,Nat.reduceLeDiff,Nat.reduceAdd,x99_1,N,X5,L,ip,s1,Z,I,w,s,U,Wk,Xc,hm,M,tm,Q,w3,Wb,Wf,W5,VD,We,Wg,Zq,Zk,Zt,g1,G,W,st,F];rfl
 ·simp only[T4,Xm,reduceIte,Nat.reduceEqDiff,and_self]
 ·simp only[Yr,YZ,T7,pc,Wk,Zr,ZE]
theorem zS {E:Xa}{K k j n it l:Nat}(S:E.mode=md){r:DL}{lo by_:PL}{s es:List (List PL)}{Z:List PL}(U:Sl by_ s)(a2:s.length<1000000){a b c e p q:PL}{m T g:List Nat}{ix:Nat}(hj:s[j]? =some (T8 a b c e T p q ix))(hm:m.length=8)(C:T.length=8)(R:g.length=8)(N:∀d∈es,d.length=12)
  {x y z u e1 e2 F G:PL} {o:List (List PL)}
  (hq:E.pure 62 [.agg (mo m),.agg (mo T)]=some (.XZ [.agg (mo g),.one (.bool true)]))
  (P:E.pure 143 [.agg [x,y,z,u],.agg [a,b,c,e]]=some (.XZ [.agg [e1,e2,F,G],.one (.int .i64 (.ofNat 0))]))
  (D:E.pure 144 [.agg [lo,by_,.int .i64 (.ofNat l),.bool false],.one (.Xp es),.agg (e1::e2::F::G::mo g),.one q]=some (.XZ [.one (.Xp o),.one (.bool true)]))
  {H:List Xz} (h0:H[0]? =some (S5 lo by_ l (.bool false))) (w:H[it]? =some (Uj x y z u m)) {f:List (List DL)} (M:H[1]? =some ⟨false,0,1,f,false,32⟩) (hn:f.length=n) {id v:Nat} {qs:List (List PL)} (hc:f[j]? =some [.own id v 0 qs.length]) (A:H[id]? =some (T7 v qs)) (a4:2<=id) (a3:qs.length<1000000):
  ∃Y J,Xb E K 0 [2,7,8,9,10,32,33,34] x99_1 (k+1) ⟨[(2,.one (.ptr 0 0 0 0)),(7,.one (.own 1 0 0 n)),(8,.one r),(9,.one (.p (.Xp (Z::es)))),(10,.one (.ptr it 0 0 0)),(32,.one (.p by_)),(33,.one (.p (.int .i64 (.ofNat s.length)))),(34,.one (.p (.int .i64 (.ofNat j))))],H⟩=some (.exit 1,⟨Y,(H.set id (T7 (v+1) (qs++[e1::e2::F::G::mo g]))).set 1 ⟨false,0,1,f.set j [.own id (v+1) 0 (qs++[e1::e2::F::G::mo g]).length],false,32⟩++J⟩)/\T4 Y n r (.p (.Xp o)):=by
 have Q:j<s.length:=(Zb.mp hj).1;have ip:=fun(hh:HF) (kd:IntKind)=>U.idx (h:=hh) (k:=kd) (sz:=15) hj (by simp[T8,XI,C])
 have tm:(Xu m).take 8=Xu m:=Zd (by rw[Xc];omega);have W:(Xu g).take 8=Xu g:=Zd (by rw[Xc];omega);have a1:(Xu g).drop 8=[]:=Zm (by rw[Xc];omega);have w3:=XT g;have s1:=VP (c:=Z) (es:=es) N;obtain⟨k1,k2,k3,k4,k5,k6,k7,k8,rfl⟩:=eight C;have t:=Wo w;have g0:=Wo h0;simp only[Uj]at t w;simp only[S5]at g0 h0;have e8:mo [k1,k2,k3,k4,k5,k6,k7,k8]=[.int .i64 (.ofNat k1),.int .i64 (.ofNat k2),.int .i64 (.ofNat k3),.int .i64 (.ofNat k4),.int .i64 (.ofNat k5),.int .i64 (.ofNat k6),.int .i64 (.ofNat k7),.int .i64 (.ofNat k8)]:=rfl;rw[e8]at hq;simp only[T8,e8,ZI,ZF]at ip;subst hn;have g1:=Wo M;have O:j<f.length:=(Zb.mp hc).1;have B:id<H.length:=(Zb.1 A).1;have st:=fun X b=>br (H:=H) B X b
 have V:=fun X b b'=>br (H:=H.set id b) (i:=1) (by rw[ZT];exact(Zb.1 M).1) X b'
 have I:∀(X:List Xz) b,(H.set id b++X)[1]? =some ⟨false,0,1,f,false,32⟩:=fun X b=>Wo (by rw[ZM (by omega)];exact M) X
 have L:=Wo A;have f2:(qs.length+1)*128<=lim:=by unfold lim;omega
 have f3:qs.length+1<=9223372036854775807:=by omega
 have c1:(id=1)=False:=by simp;omega
 have a0:(id=0)=False:=by simp;omega
 have c2:∀x,(H.length+x<=id)=False:=fun x=>by simp;omega
 have c3:(H.length<=id)=False:=by simp;omega
 have c4:∀x,(id=H.length+x)=False:=fun x=>by simp;omega
 have c5:∀x,(H.length+x=id)=False:=fun x=>by simp;omega
 have c6:(1=id)=False:=by simp;omega
 apply DE
 ·rw[Xb];simp(decide:=true)only[Xm,Xq,Vg,Vm,reduceIte,Nat.reduceEqDiff,Nat.reduceLeDiff,Nat.reduceAdd,x99_1,S,X5,Q,ip,s1,hq,P,D,t,g0,Wk,Xc,hm,R,tm,W,w3,Wb,Wf,W5,VD,We,Wg,Zq,Zk,Zt,g1,O,hc,st,V,I,L,f2,f3,c2,c4,Wl,Vp,ZT];rfl
 ·simp only[T4,Xm,reduceIte,Nat.reduceEqDiff,and_self]
abbrev aU:=Option (Nat×Nat×List (List PL))
def eP:aU->DL
 |none=>.p .XC
 |some (id,v,es)=>.own id v 0 es.length
def wY:aU->List (List PL)
 |none=>[]
 |some (_,_,es)=>es
abbrev V1 (xs:List aU):List (List DL):=xs.map fun x=>[eP x]
abbrev Dg (c:List (List DL)):Xz:=⟨false,0,1,c,false,32⟩
structure dA (lo by_:PL)(l:Nat)(fst:Bool)(H:List Xz)(r:aU)(xs:List aU):Prop where
 z0:H[0]? =some (S5 lo by_ l (.bool fst))
 z1:H[1]? =some (Dg (V1 xs))
 own:∀(i id v:Nat) (es:List (List PL)),(r::xs)[i]? =some (some (id,v,es))->H[id]? =some (T7 v es)/\2<=id
 inj:∀(i j id v:Nat) (es:List (List PL)) (v':Nat) (es':List (List PL)),(r::xs)[i]? =some (some (id,v,es))->(r::xs)[j]? =some (some (id,v',es'))->i=j
variable {lo by_:PL}{l:Nat}{fst:Bool}{H:List Xz}{r:aU}{xs:List aU}
theorem dA.app (h:dA lo by_ l fst H r xs)(J:List Xz):dA lo by_ l fst (H++J) r xs:=
 ⟨Wo h.z0 J,Wo h.z1 J,fun i id v a b=>⟨Wo (h.own i id v a b).1 J,(h.own i id v a b).2⟩,h.inj⟩
theorem dA.lt (h:dA lo by_ l fst H r xs){i id v:Nat}{a:List (List PL)}(b:(r::xs)[i]? =some (some (id,v,a))):id<H.length:=(Zb.1 (h.own i id v a b).1).1
theorem dA.Fy (h:dA lo by_ l fst H r xs):1<H.length:=(Zb.1 h.z1).1
theorem dA.mk' {c:List aU}{g:aU}{a:List aU}(e:c=g::a)(k:H[0]? =some (S5 lo by_ l (.bool fst)))(m:H[1]? =some (Dg (V1 a)))
  (f:∀(i id v:Nat) (b:List (List PL)),c[i]? =some (some (id,v,b))->H[id]? =some (T7 v b)/\2<=id) (inj:∀(i j id v:Nat) (b:List (List PL)) (h:Nat) (d:List (List PL)),c[i]? =some (some (id,v,b))->c[j]? =some (some (id,h,d))->i=j):dA lo by_ l fst H g a:=by
 subst e;exact⟨k,m,f,inj⟩
theorem dA.grow (h:dA lo by_ l fst H r xs){p id v:Nat}{es:List (List PL)}(n:(r::xs)[p]? =some (some (id,v,es)))(w:Nat)(k:List (List PL)){r':aU}{xs':List aU}(e:(r::xs).set p (some (id,w,k))=r'::xs'){H':List Xz}
  (q:∀i,i≠1->H'[i]? =(H.set id (T7 w k))[i]?) (y:H'[1]? =some (Dg (V1 xs'))):dA lo by_ l fst H' r' xs':=by
 have s:=h.own p id v es n;have z:=h.lt n;refine dA.mk' e ?_ y ?_ ?_
 ·rw[q 0 (by omega),ZM (by omega)];exact h.z0
 ·intro i g o c a;rw[Y8]at a;by_cases b:p=i
  ·rw[if_pos b]at a;split at a
   ·simp only[Za,Zo]at a;obtain⟨rfl,rfl,rfl⟩:=a;exact⟨by rw[q _ (by omega),YR z],s.2⟩
   ·cases a
  ·rw[if_neg b]at a;have u:=h.own i g o c a;have t:id≠g:=fun e=>b (by subst e;exact h.inj p i id v es o c n a)
   exact⟨by rw[q _ (by omega),ZM t];exact u.1,u.2⟩
 ·intro i j g o c x m a f;rw[Y8]at a f;by_cases b:p=i
  ·by_cases d:p=j
   ·omega
   ·rw[if_pos b]at a;rw[if_neg d]at f;split at a
    ·simp only[Za,Zo]at a;obtain⟨rfl,rfl,rfl⟩:=a;exact absurd (h.inj p j id v es x m n f) d
    ·cases a
  ·rw[if_neg b]at a;by_cases d:p=j
   ·rw[if_pos d]at f;split at f
    ·simp only[Za,Zo]at f;obtain⟨rfl,rfl,rfl⟩:=f;exact absurd (h.inj i p id o c v es a n) (fun e=>b e.symm)
    ·cases f
   ·rw[if_neg d]at f;exact h.inj i j g o c x m a f
theorem dA.new (h:dA lo by_ l fst H r xs){p id:Nat}(w:(r::xs)[p]? =some none){v:Nat}{es:List (List PL)}{r':aU}{xs':List aU}(e:(r::xs).set p (some (id,v,es))=r'::xs'){H':List Xz}
  (o:∀i,i≠1->i<H.length->H'[i]? =H[i]?) (q:H'[1]? =some (Dg (V1 xs'))) (t:H.length<=id) (s:H'[id]? =some (T7 v es)):dA lo by_ l fst H' r' xs':=by
 have x:=h.Fy;refine dA.mk' e ?_ q ?_ ?_
 ·rw[o 0 (by omega) (by omega)];exact h.z0
 ·intro i g m f a;rw[Y8]at a;by_cases b:p=i
  ·rw[if_pos b]at a;split at a
   ·simp only[Za,Zo]at a;obtain⟨rfl,rfl,rfl⟩:=a;exact⟨s,by omega⟩
   ·cases a
  ·rw[if_neg b]at a;have n:=h.own i g m f a;exact⟨by rw[o _ (by omega) (h.lt a)];exact n.1,n.2⟩
 ·intro i j g m f u k a c;rw[Y8]at a c;by_cases b:p=i
  ·by_cases d:p=j
   ·omega
   ·rw[if_pos b]at a;rw[if_neg d]at c;have:=h.lt c;split at a
    ·simp only[Za,Zo]at a;omega
    ·cases a
  ·rw[if_neg b]at a;have:=h.lt a;by_cases d:p=j
   ·rw[if_pos d]at c;split at c
    ·simp only[Za,Zo]at c;omega
    ·cases c
   ·rw[if_neg d]at c;exact h.inj i j g m f u k a c
def pZ (E:Xa)(m:List Nat)(d:List PL):Prop:=∃a b c e m2 p q ix,d=T8 a b c e m2 p q ix/\m2.length=8/\E.pure 62 [.agg (mo m),.agg (mo m2)]=some (.XZ [.agg (mo Tp),.one (.bool false)])
inductive D8 (E:Xa)(lo by_:PL)(l:Nat)(fst:Bool)(x y z u:PL)(m:List Nat)(es:List (List PL)):List PL->List PL->List (List PL)->Prop
 |mk {a b c e p q e1 e2 e3 e4:PL} {m2 m3:List Nat} {ix:Nat} {outs:List (List PL)} (hm2:m2.length=8) (hm3:m3.length=8)
  (hq:E.pure 62 [.agg (mo m),.agg (mo m2)]=some (.XZ [.agg (mo m3),.one (.bool true)]))
  (hdv:E.pure 143 [.agg [x,y,z,u],.agg [a,b,c,e]]=some (.XZ [.agg [e1,e2,e3,e4],.one (.int .i64 (.ofNat 0))]))
  (hsub:E.pure 144 [.agg [lo,by_,.int .i64 (.ofNat l),.bool fst],.one (.Xp es),.agg (e1::e2::e3::e4::mo m3),.one q]=some (.XZ [.one (.Xp outs),.one (.bool true)])):
   D8 E lo by_ l fst x y z u m es (T8 a b c e m2 p q ix) (e1::e2::e3::e4::mo m3) outs
abbrev BM (n:Nat)(r:DL)(lp by_:PL)(it nd j:Nat):List (Nat×DV):=[(2,.one (.ptr 0 0 0 0)),(7,.one (.own 1 0 0 n)),(8,.one r),(9,.one (.p lp)),(10,.one (.ptr it 0 0 0)),(32,.one (.p by_)),(33,.one (.p (.int .i64 (.ofNat nd)))),(34,.one (.p (.int .i64 (.ofNat j))))]
theorem aC {E:Xa}{K n it:Nat}(g:E.mode=md){r:DL}{lp by_:PL}{f:List (List PL)}(l:Sl by_ f)(h:f.length<1000000){m:List Nat}(t:m.length=8){x y z u:PL}:∀(c i k:Nat) (H:List Xz),(∀j,i<=j->j<i+c->∃d,f[j]? =some d/\pZ E m d)->H[it]? =some (Uj x y z u m)->
  ∃J,Xb E K 0 [2,7,8,9,10,32,33,34] x99_1 (k+c) ⟨BM n r lp by_ it f.length i,H⟩=Xb E K 0 [2,7,8,9,10,32,33,34] x99_1 k ⟨BM n r lp by_ it f.length (i+c),H++J⟩
 |0,i,k,H,_,_=>⟨[],by rw[ZS];rfl⟩
 |c+1,i,k,H,hs,h10=>by
  obtain⟨d,B,a,b,D,e,L,p,q,I,rfl,s,C⟩:=hs i (Zh _) (by omega);obtain⟨o,w⟩:=zQ (K:=K) (k:=k+c) (n:=n) (r:=r) (lp:=lp) g l h B t s C h10;obtain⟨v,A⟩:=aC g l h t c (i+1) k (H++o) (fun j F G=>hs j (by omega) (by omega)) (Wo h10 o);refine⟨o++v,?_⟩;rw[<-Zq,show i+(c+1)=i+1+c by omega];exact w.trans A
theorem ui {E:Xa}{K k n it:Nat}{r:DL}{lp by_:PL}{nd:Nat}(H:List Xz):
  ∃a,Xb E K 0 [2,7,8,9,10,32,33,34] x99_1 (k+1) ⟨BM n r lp by_ it nd nd,H⟩=some (.exit 2,⟨a,H⟩)/\T4 a n r (.p lp)/\Xh a 10=some (.one (.ptr it 0 0 0)):=by
 apply VE
 ·rw[Xb];simp only[Xm,Xq,reduceIte,Nat.reduceEqDiff,x99_1,Zx];rfl
 ·simp only[T4,Xm,reduceIte,Nat.reduceEqDiff,and_self]
theorem wH {xs:List aU}{j:Nat}{x:aU}(h:xs[j]? =some x):(V1 xs)[j]? =some [eP x]:=by simp[V1,h]
theorem jV (xs:List aU)(j:Nat)(x:aU):(V1 xs).set j [eP x]=V1 (xs.set j x):=by simp[V1,List.map_set]
def fH (fst:Bool)(cs:List (List (List PL)))(j:Nat)(t:List PL):List (List (List PL)):=match fst with
 |true=>cs
 |false=>match cs[j]? with
  |some q=>cs.set j (q++[t])
  |none=>cs
theorem BZ {E:Xa}{K k j it:Nat}(B:E.mode=md){I es:List (List PL)}{c0:List PL}(D:Sl by_ I)(C:I.length<1000000)(X:xs.length=I.length){m:List Nat}{x y z u:PL}{d s:List PL}{g:List (List PL)}(R:I[j]? =some d)(V:m.length=8)(A:∀d∈es,d.length=12)
  (hd:D8 E lo by_ l fst x y z u m es d s g) (w:H[it]? =some (Uj x y z u m)) (f:dA lo by_ l fst H r xs) (hc:∀x∈xs,(wY x).length<1000000):
  ∃o Y F,Xb E K 0 [2,7,8,9,10,32,33,34] x99_1 (k+1) ⟨BM xs.length (eP r) (.Xp (c0::es)) by_ it I.length j,H⟩=some (.exit 1,⟨o,Y⟩)/\T4 o xs.length (eP r) (.p (.Xp g))/\dA lo by_ l fst Y r F/\F.map wY=fH fst (xs.map wY) j s/\F.length=xs.length:=by
 obtain @⟨a,b,c,e,p,q,e1,e2,e3,e4,m2,m3,ix,g,hm2,hm3,hq,hdv,hsub⟩:=hd;have U:j<xs.length:=by rw[X];exact(Zb.1 R).1
 cases fst with
 |true=>
  obtain⟨o,J,L,M⟩:=zV (K:=K) (k:=k) (n:=xs.length) (r:=eP r) B D C R V hm2 hm3 A hq hdv hsub f.z0 w;exact⟨o,_,xs,L,M,f.app J,rfl,rfl⟩
 |false=>
  obtain⟨x,S⟩:∃x,xs[j]? =some x:=⟨_,Zf U⟩;have Q:=wH S;have N:(V1 xs).length=xs.length:=by simp
  have h:(r::xs)[j+1]? =some x:=by rw[Yr];exact S
  have P:∀t,fH false (xs.map wY) j t=(xs.map wY).set j (wY x++[t]):=fun t=>by
   simp only[fH,ZA,S,Z4]
  cases x with
  |none=>
   obtain⟨o,J,L,M,g3⟩:=zU (K:=K) (k:=k) (n:=xs.length) (r:=eP r) B D C R V hm2 hm3 A hq hdv hsub f.z0 w f.z1 N Q;refine⟨o,_,_,L,M,f.new (p:=j+1) (id:=H.length+4) (v:=0) (es:=[e1::e2::e3::e4::mo m3]) h (r':=r) (by rw[Y3]) (fun i T hl=> ?_) ?_ (by omega) ?_,?_,by rw[ZT]⟩
   ·rw[ZB (by rw[ZT];exact hl),ZM (fun e=>T e.symm)]
   ·rw[ZB (by rw[ZT];exact f.Fy),YR f.Fy,<-jV];rfl
   ·rw[ZL (by rw[ZT];omega),ZT,Y7];exact g3
   ·rw[P,List.map_set];rfl
  |some q=>
   obtain⟨id,v,G⟩:=q;have Z:=f.own (j+1) id v G h;have W:=hc _ (Zn S);obtain⟨o,J,L,M⟩:=zS (K:=K) (k:=k) (n:=xs.length) (r:=eP r) B D C R V hm2 hm3 A hq hdv hsub f.z0 w f.z1 N (id:=id) (v:=v) (qs:=G) Q Z.1 Z.2 W;have O:1<(H.set id (T7 (v+1) (G++[e1::e2::e3::e4::mo m3]))).length:=by rw[ZT];exact f.Fy
   refine⟨o,_,_,L,M,f.app J|>.grow (p:=j+1) (id:=id) (v:=v) (es:=G) h (v+1) (G++[e1::e2::e3::e4::mo m3]) (r':=r) (by rw[Y3]) (fun i T=> ?_) ?_,?_,by rw[ZT]⟩
   ·rw[br (f.lt h),List.getElem?_append,List.getElem?_append,ZT,ZM (fun e=>T e.symm)]
   ·rw[ZB (by rw[ZT];exact O),YR O,<-jV];rfl
   ·rw[P,List.map_set];rfl
end Go.Proofs.YtidginchkjhobaaGreat
namespace Go.Proofs.YtidginchkjhobaaGreat
open Go.Ev Go.Num
theorem wE {E:Xa}{K k n l:Nat}(L:E.mode=md){lo by_:PL}{g es:List (List PL)}(t:Sl by_ g)(M:g.length<1000000){m:List Nat}(B:m.length=8)(o:∀d∈es,d.length=12){x y z u:PL}{H b:List Xz}{T:List (Nat×DV)}
  (F:H[0]? =some (S5 lo by_ l (.bool false))) (C:Xb E K 0 [2,7,8,9,10,32,33,34] x99_1 K ⟨BM n (.p .XC) (.Xp ((x::y::z::u::mo m)::es)) by_ H.length g.length 0,H++[Uj x y z u m]⟩=some (.exit 2,⟨T,b⟩)) (s:T4 T n (.p .XC) (.p (.Xp ((x::y::z::u::mo m)::es)))) (N:Xh T 10=some (.one (.ptr H.length 0 0 0)))
  (a:b[H.length]? =some (Uj x y z u m)) (G:b[0]? =some (S5 lo by_ l (.bool false))):
  ∃J,Xb E K 0 [2,7,8,9] x99_2 (k+1) ⟨[(2,.one (.ptr 0 0 0 0)),(7,.one (.own 1 0 0 n)),(8,.one (.p .XC)),(9,.one (.p (.Xp ((x::y::z::u::mo m)::es))))],H⟩=Xb E K 0 [2,7,8,9] x99_2 k ⟨[(2,.one (.ptr 0 0 0 0)),(7,.one (.own 1 0 0 n)),(8,.one (.own (b.length+1) 0 0 1)),(9,.one (.p (.Xp es)))],b++J⟩/\J[1]? =some (T7 0 [x::y::z::u::mo m]):=by
 obtain⟨R,S,U,V⟩:=s;have D:Sl (.Xp ((x::y::z::u::mo m)::es)) _:=.Xp;have e:=D.len;have O:=fun(I:HF) (P:IntKind)=>D.idx (h:=I) (k:=P) (i:=0) (sz:=12) rfl (by simp[XI,B])
 have Q:=VP (c:=x::y::z::u::mo m) (es:=es) o;have W:(Xu m).take 8=Xu m:=Zd (by rw[Xc];omega);have X:(Xu m).drop 8=[]:=Zm (by rw[Xc];omega);have w:=XT m;have v:=Wo F;have A:=Wo G;have j:=Wo a;have r:=t.len;simp only[Uj]at j a C;simp only[S5]at v F A G;have q:∀(n:Nat) (c:List DL) (f:List Nat),WQ 75 12 128 n [c] f=some ⟨.one (.own n 0 0 1),[⟨false,0,12,[c],false,75⟩],[],f⟩:=fun _ _ _=>rfl
 apply Exists.intro;refine⟨?_,?_⟩
 ·rw[Xb];simp(decide:=true)only[Xm,Xq,reduceIte,Nat.reduceAdd,x99_2,Wk,Xc,We,Wg,Zq,Zk,Zt,YP,e,O,Q,W,v,A,a,r,C,R,S,U,V,N,B,q];rfl
 ·simp only[Yr,YZ,T7,pc,Wk,Zr,ZE]
theorem wD {E:Xa}{K k n l:Nat}(M:E.mode=md){lo by_:PL}{j es:List (List PL)}(v:Sl by_ j)(N:j.length<1000000){m:List Nat}(C:m.length=8)(q:∀d∈es,d.length=12){x y z u:PL}{H b:List Xz}{T:List (Nat×DV)}
  (G:H[0]? =some (S5 lo by_ l (.bool true))) (D:Xb E K 0 [2,7,8,9,10,32,33,34] x99_1 K ⟨BM n (.p .XC) (.Xp ((x::y::z::u::mo m)::es)) by_ H.length j.length 0,H++[Uj x y z u m]⟩=some (.exit 2,⟨T,b⟩)) (t:T4 T n (.p .XC) (.p (.Xp ((x::y::z::u::mo m)::es)))) (O:Xh T 10=some (.one (.ptr H.length 0 0 0)))
  (a:b[H.length]? =some (Uj x y z u m)) (I:b[0]? =some (S5 lo by_ l (.bool true))):
  ∃g J,Xb E K 0 [2,7,8,9] x99_2 (k+1) ⟨[(2,.one (.ptr 0 0 0 0)),(7,.one (.own 1 0 0 n)),(8,.one (.p .XC)),(9,.one (.p (.Xp ((x::y::z::u::mo m)::es))))],H⟩=some (.exit 0,⟨g,b++J⟩)/\(Xh g 7=some (.one (.own 1 0 0 n))/\Xh g 8=some (.one (.own (b.length+1) 0 0 1)))/\J[1]? =some (T7 0 [x::y::z::u::mo m]):=by
 obtain⟨R,S,U,V⟩:=t;have F:Sl (.Xp ((x::y::z::u::mo m)::es)) _:=.Xp;have e:=F.len;have P:=fun(L:HF) (Q:IntKind)=>F.idx (h:=L) (k:=Q) (i:=0) (sz:=12) rfl (by simp[XI,C])
 have Y:=VP (c:=x::y::z::u::mo m) (es:=es) q;have W:(Xu m).take 8=Xu m:=Zd (by rw[Xc];omega);have X:(Xu m).drop 8=[]:=Zm (by rw[Xc];omega);have w:=XT m;have A:=Wo G;have B:=Wo I;have o:=Wo a;have s:=v.len;simp only[Uj]at o a D;simp only[S5]at A G B I;have r:∀(n:Nat) (c:List DL) (f:List Nat),WQ 75 12 128 n [c] f=some ⟨.one (.own n 0 0 1),[⟨false,0,12,[c],false,75⟩],[],f⟩:=fun _ _ _=>rfl
 apply EW
 ·rw[Xb];simp(decide:=true)only[Xm,Xq,reduceIte,Nat.reduceAdd,x99_2,Wk,Xc,We,Wg,Zq,Zk,Zt,YP,e,P,W,A,B,a,s,D,R,S,U,V,O,C,r];rfl
 ·simp only[Xm,reduceIte,Nat.reduceEqDiff,and_self]
 ·simp only[Yr,YZ,T7,pc,Wk,Zr,ZE]
theorem wC {E:Xa}{K k n l:Nat}(S:E.mode=md){lo by_:PL}{r es:List (List PL)}(D:Sl by_ r)(U:r.length<1000000){m:List Nat}(I:m.length=8)(A:∀d∈es,d.length=12){x y z u:PL}{H f:List Xz}{T:List (Nat×DV)}{id v:Nat}{e:List (List PL)}(a:f[id]? =some (T7 v e))(V:e.length<1000000)
  (N:H[0]? =some (S5 lo by_ l (.bool false))) (L:Xb E K 0 [2,7,8,9,10,32,33,34] x99_1 K ⟨BM n (.own id v 0 e.length) (.Xp ((x::y::z::u::mo m)::es)) by_ H.length r.length 0,H++[Uj x y z u m]⟩=some (.exit 2,⟨T,f⟩)) (C:T4 T n (.own id v 0 e.length) (.p (.Xp ((x::y::z::u::mo m)::es)))) (W:Xh T 10=some (.one (.ptr H.length 0 0 0)))
  (g:f[H.length]? =some (Uj x y z u m)) (q:f[0]? =some (S5 lo by_ l (.bool false))):
  ∃J,Xb E K 0 [2,7,8,9] x99_2 (k+1) ⟨[(2,.one (.ptr 0 0 0 0)),(7,.one (.own 1 0 0 n)),(8,.one (.own id v 0 e.length)),(9,.one (.p (.Xp ((x::y::z::u::mo m)::es))))],H⟩=Xb E K 0 [2,7,8,9] x99_2 k ⟨[(2,.one (.ptr 0 0 0 0)),(7,.one (.own 1 0 0 n)),(8,.one (.own id (v+1) 0 (e++[x::y::z::u::mo m]).length)),(9,.one (.p (.Xp es)))],f.set id (T7 (v+1) (e++[x::y::z::u::mo m]))++J⟩:=by
 obtain⟨s2,s7,s8,s9⟩:=C;have M:Sl (.Xp ((x::y::z::u::mo m)::es)) _:=.Xp;have o:=M.len;have Y:=fun(R:HF) (Z:IntKind)=>M.idx (h:=R) (k:=Z) (i:=0) (sz:=12) rfl (by simp[XI,I])
 have s1:=VP (c:=x::y::z::u::mo m) (es:=es) A;have tm:(Xu m).take 8=Xu m:=Zd (by rw[Xc];omega);have dm:(Xu m).drop 8=[]:=Zm (by rw[Xc];omega);have w:=XT m;have G:=Wo N;have Q:=Wo q;have s:=Wo g;have B:=D.len;simp only[Uj]at s g L;simp only[S5]at G N Q q;have st:=fun X b=>br (H:=f) (Zb.1 a).1 X b
 have t:=Wo a;have O:(e.length+1)*128<=lim:=by unfold lim;omega
 have P:e.length+1<=9223372036854775807:=by omega
 have F:∀b X,id≠0->(f.set id b++X)[0]? =some ⟨false,0,4,[[.p lo,.p by_,.p (.int .i64 (.ofNat l)),.p (.bool false)]],false,135⟩:=fun b X h0=>Wo (by rw[ZM (by omega)];exact q) X
 have j:id≠0:=by
  rintro rfl;rw[q]at a;cases a
 apply Exists.intro;rw[Xb];simp(decide:=true)only[Xm,Xq,reduceIte,Nat.reduceAdd,x99_2,Wk,Xc,We,Wg,Zk,Zt,YP,o,Y,s1,tm,G,g,B,L,s2,s7,s8,s9,W,I,st,t,O,P,Wl,Vp,F _ _ j];rfl
theorem wB {E:Xa}{K k n l:Nat}(U:E.mode=md){lo by_:PL}{s es:List (List PL)}(F:Sl by_ s)(V:s.length<1000000){m:List Nat}(L:m.length=8)(B:∀d∈es,d.length=12){x y z u:PL}{H f:List Xz}{T:List (Nat×DV)}{id v:Nat}{e:List (List PL)}(a:f[id]? =some (T7 v e))(W:e.length<1000000)
  (O:H[0]? =some (S5 lo by_ l (.bool true))) (M:Xb E K 0 [2,7,8,9,10,32,33,34] x99_1 K ⟨BM n (.own id v 0 e.length) (.Xp ((x::y::z::u::mo m)::es)) by_ H.length s.length 0,H++[Uj x y z u m]⟩=some (.exit 2,⟨T,f⟩)) (D:T4 T n (.own id v 0 e.length) (.p (.Xp ((x::y::z::u::mo m)::es)))) (Y:Xh T 10=some (.one (.ptr H.length 0 0 0)))
  (g:f[H.length]? =some (Uj x y z u m)) (q:f[0]? =some (S5 lo by_ l (.bool true))):
  ∃r J,Xb E K 0 [2,7,8,9] x99_2 (k+1) ⟨[(2,.one (.ptr 0 0 0 0)),(7,.one (.own 1 0 0 n)),(8,.one (.own id v 0 e.length)),(9,.one (.p (.Xp ((x::y::z::u::mo m)::es))))],H⟩=some (.exit 0,⟨r,f.set id (T7 (v+1) (e++[x::y::z::u::mo m]))++J⟩)/\(Xh r 7=some (.one (.own 1 0 0 n))/\Xh r 8=some (.one (.own id (v+1) 0 (e++[x::y::z::u::mo m]).length))):=by
 obtain⟨s2,s7,s8,s9⟩:=D;have N:Sl (.Xp ((x::y::z::u::mo m)::es)) _:=.Xp;have o:=N.len;have Z:=fun(S:HF) (kd:IntKind)=>N.idx (h:=S) (k:=kd) (i:=0) (sz:=12) rfl (by simp[XI,L])
 have s1:=VP (c:=x::y::z::u::mo m) (es:=es) B;have tm:(Xu m).take 8=Xu m:=Zd (by rw[Xc];omega);have dm:(Xu m).drop 8=[]:=Zm (by rw[Xc];omega);have w:=XT m;have I:=Wo O;have R:=Wo q;have t:=Wo g;have C:=F.len;simp only[Uj]at t g M;simp only[S5]at I O R q;have st:=fun X b=>br (H:=f) (Zb.1 a).1 X b
 have A:=Wo a;have P:(e.length+1)*128<=lim:=by unfold lim;omega
 have Q:e.length+1<=9223372036854775807:=by omega
 have G:∀b X,id≠0->(f.set id b++X)[0]? =some ⟨false,0,4,[[.p lo,.p by_,.p (.int .i64 (.ofNat l)),.p (.bool true)]],false,135⟩:=fun b X h0=>Wo (by rw[ZM (by omega)];exact q) X
 have j:id≠0:=by
  rintro rfl;rw[q]at a;cases a
 apply DE
 ·rw[Xb];simp(decide:=true)only[Xm,Xq,reduceIte,Nat.reduceAdd,x99_2,Wk,Xc,We,Wg,Zk,Zt,YP,o,Z,tm,I,g,C,M,s2,s7,s8,s9,Y,L,st,A,P,Q,Wl,Vp,G _ _ j];rfl
 ·simp only[Xm,reduceIte,Nat.reduceEqDiff,and_self,Zk]
end Go.Proofs.YtidginchkjhobaaGreat
