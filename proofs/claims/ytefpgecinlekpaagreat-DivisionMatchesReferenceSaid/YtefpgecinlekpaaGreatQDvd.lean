/- Division: divide, the rounds over the divisors. -/
import Derived.Test.YtefpgecinlekpaaGreatQDvs
set_option maxHeartbeats 16000000
set_option maxRecDepth 100000
namespace Go.Proofs.YtefpgecinlekpaaGreat
open Go.Ev Go.Num
theorem X1 {H:List Xz}{i:Nat}{b:Xz}(h:H[i]? =some b)(X:List Xz):(H++X)[i]? =some b:=by
 rw[ZC (Zd.1 h).1];exact h
theorem Ql {H:List Xz}{i:Nat}(h:i<H.length)(X:List Xz)(b:Xz):(H++X).set i b=H.set i b++X:=List.set_append_left _ _ h
abbrev To:List Nat:=[0,0,0,0,0,0,0,0]
theorem zS {E:Xb}{K k j n s:Nat}(o:E.mode=md){r:DL}{lp by_:PL}{d:List (List PL)}(v:Sl by_ d)(S:d.length<1000000){a b c e p q:PL}{m t:List Nat}{T:Nat}(A:d[j]? =some (Sb a b c e t p q T))(R:m.length=8)(i:t.length=8)
  (B:E.pure 103 [.agg (mo m),.agg (mo t)]=some (.XY [.agg (mo To),.one (.bool false)])) {x y z u:PL} {H:List Xz} (g:H[s]? =some (Um x y z u m)):
  ∃J,Xc E K 0 [2,7,8,9,10,32,33,34] x67_1 (k+1) ⟨[(2,.one (.ptr 0 0 0 0)),(7,.one (.own 1 0 0 n)),(8,.one r),(9,.one (.p lp)),(10,.one (.ptr s 0 0 0)),(32,.one (.p by_)),(33,.one (.p (.int .i64 (.ofNat d.length)))),(34,.one (.p (.int .i64 (.ofNat j))))],H⟩=
   Xc E K 0 [2,7,8,9,10,32,33,34] x67_1 k ⟨[(2,.one (.ptr 0 0 0 0)),(7,.one (.own 1 0 0 n)),(8,.one r),(9,.one (.p lp)),(10,.one (.ptr s 0 0 0)),(32,.one (.p by_)),(33,.one (.p (.int .i64 (.ofNat d.length)))),(34,.one (.p (.int .i64 (.ofNat (j+1)))))],H++J⟩:=by
 have l:j<d.length:=(Zd.mp A).1;have C:=fun(Q:HF) (U:IntKind)=>v.idx (h:=Q) (k:=U) (sz:=15) A (by simp[Sb,Xy,i])
 have P:Xe .i64 (.ofNat (j+1))=.ofNat (j+1):=wrap_i64 (by omega);have V:(Xm m).take 8=Xm m:=Zb (by rw[Xa];omega);obtain⟨D,F,G,I,L,M,N,O,rfl⟩:=eight i;have f:=X1 g;simp only[Um]at f g;have w:mo [D,F,G,I,L,M,N,O]=[.int .i64 (.ofNat D),.int .i64 (.ofNat F),.int .i64 (.ofNat G),.int .i64 (.ofNat I),.int .i64 (.ofNat L),.int .i64 (.ofNat M),.int .i64 (.ofNat N),.int .i64 (.ofNat O)]:=rfl;have W:mo To=[.int .i64 (.ofNat 0),.int .i64 (.ofNat 0),.int .i64 (.ofNat 0),.int .i64 (.ofNat 0),.int .i64 (.ofNat 0),.int .i64 (.ofNat 0),.int .i64 (.ofNat 0),.int .i64 (.ofNat 0)]:=rfl;rw[W,w]at B;simp only[Sb,w,ZR,ZO]at C;apply Exists.intro;rw[Xc];simp(decide:=true)only[Xp,Xq,WR,reduceIte,Nat.reduceAdd,x67_1,o,XW,l,C,P,B,f,Xa,R,V,XK,XN,Vh,V6,Wa,Wf,Zq,Zl,Zs];rfl
def T4 (T:List (Nat×DV))(n:Nat)(r l:DL):Prop:=Xh T 2=some (.one (.ptr 0 0 0 0))/\Xh T 7=some (.one (.own 1 0 0 n))/\Xh T 8=some (.one r)/\Xh T 9=some (.one l)
theorem Fi {a b:Type}{p q r:a->b->Prop}{x:a}{y:b}(h:p x y)(k:q x y)(l:r x y):∃x y,p x y/\q x y/\r x y:=⟨x,y,h,k,l⟩
theorem zD {a b:Type}{p q:a->b->Prop}{x:a}{y:b}(h:p x y)(k:q x y):∃x y,p x y/\q x y:=⟨x,y,h,k⟩
theorem zW {E:Xb}{K k j n T l:Nat}(D:E.mode=md){r:DL}{lo by_:PL}{i es:List (List PL)}{M:List PL}(G:Sl by_ i)(a1:i.length<1000000){a b c e p q:PL}{m F g:List Nat}{ix:Nat}(Q:i[j]? =some (Sb a b c e F p q ix))(hm:m.length=8)(t:F.length=8)(C:g.length=8)(w:∀d∈es,d.length=12)
  {x y z u e1 e2 e3 N:PL} {f:List (List PL)}
  (R:E.pure 103 [.agg (mo m),.agg (mo F)]=some (.XY [.agg (mo g),.one (.bool true)]))
  (A:E.pure 104 [.agg [x,y,z,u],.agg [a,b,c,e]]=some (.XY [.agg [e1,e2,e3,N],.one (.int .i64 (.ofNat 0))]))
  (v:E.pure 105 [.agg [lo,by_,.int .i64 (.ofNat l),.bool true],.one (.Xv es),.agg (e1::e2::e3::N::mo g),.one q]=some (.XY [.one (.Xv f),.one (.bool true)]))
  {H:List Xz} (h0:H[0]? =some (S5 lo by_ l (.bool true))) (s:H[T]? =some (Um x y z u m)):
  ∃L J,Xc E K 0 [2,7,8,9,10,32,33,34] x67_1 (k+1) ⟨[(2,.one (.ptr 0 0 0 0)),(7,.one (.own 1 0 0 n)),(8,.one r),(9,.one (.p (.Xv (M::es)))),(10,.one (.ptr T 0 0 0)),(32,.one (.p by_)),(33,.one (.p (.int .i64 (.ofNat i.length)))),(34,.one (.p (.int .i64 (.ofNat j))))],H⟩=some (.exit 1,⟨L,H++J⟩)/\T4 L n r (.p (.Xv f)):=by
 have B:j<i.length:=(Zd.mp Q).1;have S:=fun(hh:HF) (kd:IntKind)=>G.idx (h:=hh) (k:=kd) (sz:=15) Q (by simp[Sb,Xy,t])
 have tm:(Xm m).take 8=Xm m:=Zb (by rw[Xa];omega);have I:(Xm g).take 8=Xm g:=Zb (by rw[Xa];omega);have a0:(Xm g).drop 8=[]:=Zj (by rw[Xa];omega);have w3:=Xo g;have s1:=VW (c:=M) (es:=es) w;obtain⟨U,V,W,X,Y,Z,k7,k8,rfl⟩:=eight t;have o:=X1 s;have P:=X1 h0;simp only[Um]at o s;simp only[S5]at P h0;have O:mo [U,V,W,X,Y,Z,k7,k8]=[.int .i64 (.ofNat U),.int .i64 (.ofNat V),.int .i64 (.ofNat W),.int .i64 (.ofNat X),.int .i64 (.ofNat Y),.int .i64 (.ofNat Z),.int .i64 (.ofNat k7),.int .i64 (.ofNat k8)]:=rfl;rw[O]at R;simp only[Sb,O,ZR,ZO]at S;apply zD
 ·rw[Xc];simp(decide:=true)only[Xp,Xq,VN,WR,reduceIte,Nat.reduceEqDiff,Nat.reduceLeDiff,Nat.reduceAdd,x67_1,D,XW,B,S,s1,R,A,v,o,P,XS,Xa,hm,C,tm,I,w3,XK,XN,Vh,V6,Wa,Wf,Zq,Zl,Zs];rfl
 ·simp only[T4,Xp,reduceIte,Nat.reduceEqDiff,and_self]
theorem zV {E:Xb}{K k j n it l:Nat}(M:E.mode=md){r:DL}{lo by_:PL}{o es:List (List PL)}{R:List PL}(O:Sl by_ o)(a1:o.length<1000000){a b c e p q:PL}{m N g:List Nat}{ix:Nat}(W:o[j]? =some (Sb a b c e N p q ix))(hm:m.length=8)(v:N.length=8)(L:g.length=8)(C:∀d∈es,d.length=12)
  {x y z u e1 e2 e3 B:PL} {i:List (List PL)}
  (Y:E.pure 103 [.agg (mo m),.agg (mo N)]=some (.XY [.agg (mo g),.one (.bool true)]))
  (G:E.pure 104 [.agg [x,y,z,u],.agg [a,b,c,e]]=some (.XY [.agg [e1,e2,e3,B],.one (.int .i64 (.ofNat 0))]))
  (w:E.pure 105 [.agg [lo,by_,.int .i64 (.ofNat l),.bool false],.one (.Xv es),.agg (e1::e2::e3::B::mo g),.one q]=some (.XY [.one (.Xv i),.one (.bool true)]))
  {H:List Xz} (h0:H[0]? =some (S5 lo by_ l (.bool false))) (t:H[it]? =some (Um x y z u m)) {f:List (List DL)} (U:H[1]? =some ⟨false,0,1,f,false,29⟩) (hn:f.length=n) (V:f[j]? =some [.p .XJ]):
  ∃Q J,Xc E K 0 [2,7,8,9,10,32,33,34] x67_1 (k+1) ⟨[(2,.one (.ptr 0 0 0 0)),(7,.one (.own 1 0 0 n)),(8,.one r),(9,.one (.p (.Xv (R::es)))),(10,.one (.ptr it 0 0 0)),(32,.one (.p by_)),(33,.one (.p (.int .i64 (.ofNat o.length)))),(34,.one (.p (.int .i64 (.ofNat j))))],H⟩=some (.exit 1,⟨Q,H.set 1 ⟨false,0,1,f.set j [.own (H.length+4) 0 0 1],false,29⟩++J⟩)/\T4 Q n r (.p (.Xv i))/\J[4]? =some (T8 0 [e1::e2::e3::B::mo g]):=by
 have I:j<o.length:=(Zd.mp W).1;have Z:=fun(hh:HF) (kd:IntKind)=>O.idx (h:=hh) (k:=kd) (sz:=15) W (by simp[Sb,Xy,v])
 have tm:(Xm m).take 8=Xm m:=Zb (by rw[Xa];omega);have P:(Xm g).take 8=Xm g:=Zb (by rw[Xa];omega);have a0:(Xm g).drop 8=[]:=Zj (by rw[Xa];omega);have w3:=Xo g;have s1:=VW (c:=R) (es:=es) C;obtain⟨k1,k2,k3,k4,k5,k6,k7,k8,rfl⟩:=eight v;have s:=X1 t;have T:=X1 h0;simp only[Um]at s t;simp only[S5]at T h0;have S:mo [k1,k2,k3,k4,k5,k6,k7,k8]=[.int .i64 (.ofNat k1),.int .i64 (.ofNat k2),.int .i64 (.ofNat k3),.int .i64 (.ofNat k4),.int .i64 (.ofNat k5),.int .i64 (.ofNat k6),.int .i64 (.ofNat k7),.int .i64 (.ofNat k8)]:=rfl;rw[S]at Y;simp only[Sb,S,ZR,ZO]at Z;subst hn;have g1:=X1 U;have F:j<f.length:=(Zd.mp V).1;have st:=fun X b=>Ql (H:=H) (Zd.1 U).1 X b
 have D:∀(n:Nat) (c:List DL) (A:List Nat),WK 63 12 128 n [c] A=some ⟨.one (.own n 0 0 1),[⟨false,0,12,[c],false,63⟩],[],A⟩:=fun _ _ _=>rfl
 apply Fi
 ·rw[Xc];simp(decide:=true)only[Xp,Xq,VN,WR,reduceIte,Nat.reduceEqDiff,Nat.reduceLeDiff,Nat.reduceAdd,x67_1,M,XW,I,Z,s1,Y,G,w,s,T,XS,Xa,hm,L,tm,P,w3,XK,XN,Vh,V6,Wa,Wf,Zq,Zl,Zs,g1,F,V,st,D];rfl
 ·simp only[T4,Xp,reduceIte,Nat.reduceEqDiff,and_self]
 ·simp only[Z9,Yq,T8,pc,XS,Zw,ZT]
theorem zU {E:Xb}{K k j n it l:Nat}(R:E.mode=md){r:DL}{lo by_:PL}{s es:List (List PL)}{Y:List PL}(T:Sl by_ s)(a2:s.length<1000000){a b c e p q:PL}{m S g:List Nat}{ix:Nat}(hj:s[j]? =some (Sb a b c e S p q ix))(hm:m.length=8)(C:S.length=8)(Q:g.length=8)(M:∀d∈es,d.length=12)
  {x y z u e1 e2 e3 F:PL} {o:List (List PL)}
  (hq:E.pure 103 [.agg (mo m),.agg (mo S)]=some (.XY [.agg (mo g),.one (.bool true)]))
  (O:E.pure 104 [.agg [x,y,z,u],.agg [a,b,c,e]]=some (.XY [.agg [e1,e2,e3,F],.one (.int .i64 (.ofNat 0))]))
  (D:E.pure 105 [.agg [lo,by_,.int .i64 (.ofNat l),.bool false],.one (.Xv es),.agg (e1::e2::e3::F::mo g),.one q]=some (.XY [.one (.Xv o),.one (.bool true)]))
  {H:List Xz} (h0:H[0]? =some (S5 lo by_ l (.bool false))) (w:H[it]? =some (Um x y z u m)) {f:List (List DL)} (L:H[1]? =some ⟨false,0,1,f,false,29⟩) (hn:f.length=n) {id v:Nat} {qs:List (List PL)} (hc:f[j]? =some [.own id v 0 qs.length]) (A:H[id]? =some (T8 v qs)) (a4:2<=id) (a3:qs.length<1000000):
  ∃W J,Xc E K 0 [2,7,8,9,10,32,33,34] x67_1 (k+1) ⟨[(2,.one (.ptr 0 0 0 0)),(7,.one (.own 1 0 0 n)),(8,.one r),(9,.one (.p (.Xv (Y::es)))),(10,.one (.ptr it 0 0 0)),(32,.one (.p by_)),(33,.one (.p (.int .i64 (.ofNat s.length)))),(34,.one (.p (.int .i64 (.ofNat j))))],H⟩=some (.exit 1,⟨W,(H.set id (T8 (v+1) (qs++[e1::e2::e3::F::mo g]))).set 1 ⟨false,0,1,f.set j [.own id (v+1) 0 (qs++[e1::e2::e3::F::mo g]).length],false,29⟩++J⟩)/\T4 W n r (.p (.Xv o)):=by
 have P:j<s.length:=(Zd.mp hj).1;have ip:=fun(hh:HF) (kd:IntKind)=>T.idx (h:=hh) (k:=kd) (sz:=15) hj (by simp[Sb,Xy,C])
 have tm:(Xm m).take 8=Xm m:=Zb (by rw[Xa];omega);have V:(Xm g).take 8=Xm g:=Zb (by rw[Xa];omega);have a1:(Xm g).drop 8=[]:=Zj (by rw[Xa];omega);have w3:=Xo g;have s1:=VW (c:=Y) (es:=es) M;obtain⟨k1,k2,k3,k4,k5,k6,k7,k8,rfl⟩:=eight C;have t:=X1 w;have g0:=X1 h0;simp only[Um]at t w;simp only[S5]at g0 h0;have Z:mo [k1,k2,k3,k4,k5,k6,k7,k8]=[.int .i64 (.ofNat k1),.int .i64 (.ofNat k2),.int .i64 (.ofNat k3),.int .i64 (.ofNat k4),.int .i64 (.ofNat k5),.int .i64 (.ofNat k6),.int .i64 (.ofNat k7),.int .i64 (.ofNat k8)]:=rfl;rw[Z]at hq;simp only[Sb,Z,ZR,ZO]at ip;subst hn;have g1:=X1 L;have N:j<f.length:=(Zd.mp hc).1;have B:id<H.length:=(Zd.1 A).1;have st:=fun X b=>Ql (H:=H) B X b
 have U:=fun X b b'=>Ql (H:=H.set id b) (i:=1) (by rw[ZZ];exact(Zd.1 L).1) X b'
 have G:∀(X:List Xz) b,(H.set id b++X)[1]? =some ⟨false,0,1,f,false,29⟩:=fun X b=>X1 (by rw[ZB (by omega)];exact L) X
 have I:=X1 A;have f2:(qs.length+1)*128<=lim:=by unfold lim;omega
 have f3:qs.length+1<=9223372036854775807:=by omega
 have c1:(id=1)=False:=by simp;omega
 have a0:(id=0)=False:=by simp;omega
 have c2:∀x,(H.length+x<=id)=False:=fun x=>by simp;omega
 have c3:(H.length<=id)=False:=by simp;omega
 have c4:∀x,(id=H.length+x)=False:=fun x=>by simp;omega
 have c5:∀x,(H.length+x=id)=False:=fun x=>by simp;omega
 have c6:(1=id)=False:=by simp;omega
 apply zD
 ·rw[Xc];simp(decide:=true)only[Xp,Xq,VN,WR,reduceIte,Nat.reduceEqDiff,Nat.reduceLeDiff,Nat.reduceAdd,x67_1,R,XW,P,ip,s1,hq,O,D,t,g0,XS,Xa,hm,Q,tm,V,w3,XK,XN,Vh,V6,Wa,Wf,Zq,Zl,Zs,g1,N,hc,st,U,G,I,f2,f3,c2,c4,Wi,Vn,ZZ];rfl
 ·simp only[T4,Xp,reduceIte,Nat.reduceEqDiff,and_self]
abbrev PK:=Option (Nat×Nat×List (List PL))
def Qk:PK->DL
 |none=>.p .XJ
 |some (id,v,es)=>.own id v 0 es.length
def wR:PK->List (List PL)
 |none=>[]
 |some (_,_,es)=>es
abbrev V8 (xs:List PK):List (List DL):=xs.map fun x=>[Qk x]
abbrev Dt (c:List (List DL)):Xz:=⟨false,0,1,c,false,29⟩
structure dz (lo by_:PL)(l:Nat)(fst:Bool)(H:List Xz)(r:PK)(xs:List PK):Prop where
 z0:H[0]? =some (S5 lo by_ l (.bool fst))
 z1:H[1]? =some (Dt (V8 xs))
 own:∀(i id v:Nat) (es:List (List PL)),(r::xs)[i]? =some (some (id,v,es))->H[id]? =some (T8 v es)/\2<=id
 inj:∀(i j id v:Nat) (es:List (List PL)) (v':Nat) (es':List (List PL)),(r::xs)[i]? =some (some (id,v,es))->(r::xs)[j]? =some (some (id,v',es'))->i=j
variable {lo by_:PL}{l:Nat}{fst:Bool}{H:List Xz}{r:PK}{xs:List PK}
theorem dz.app (h:dz lo by_ l fst H r xs)(J:List Xz):dz lo by_ l fst (H++J) r xs:=
 ⟨X1 h.z0 J,X1 h.z1 J,fun i id v a b=>⟨X1 (h.own i id v a b).1 J,(h.own i id v a b).2⟩,h.inj⟩
theorem dz.lt (h:dz lo by_ l fst H r xs){i id v:Nat}{a:List (List PL)}(b:(r::xs)[i]? =some (some (id,v,a))):id<H.length:=(Zd.1 (h.own i id v a b).1).1
theorem dz.FR (h:dz lo by_ l fst H r xs):1<H.length:=(Zd.1 h.z1).1
theorem dz.mk' {c:List PK}{g:PK}{a:List PK}(e:c=g::a)(k:H[0]? =some (S5 lo by_ l (.bool fst)))(m:H[1]? =some (Dt (V8 a)))
  (f:∀(i id v:Nat) (b:List (List PL)),c[i]? =some (some (id,v,b))->H[id]? =some (T8 v b)/\2<=id) (inj:∀(i j id v:Nat) (b:List (List PL)) (h:Nat) (d:List (List PL)),c[i]? =some (some (id,v,b))->c[j]? =some (some (id,h,d))->i=j):dz lo by_ l fst H g a:=by
 subst e;exact⟨k,m,f,inj⟩
theorem dz.grow (h:dz lo by_ l fst H r xs){p id v:Nat}{es:List (List PL)}(n:(r::xs)[p]? =some (some (id,v,es)))(w:Nat)(k:List (List PL)){r':PK}{xs':List PK}(e:(r::xs).set p (some (id,w,k))=r'::xs'){H':List Xz}
  (q:∀i,i≠1->H'[i]? =(H.set id (T8 w k))[i]?) (y:H'[1]? =some (Dt (V8 xs'))):dz lo by_ l fst H' r' xs':=by
 have s:=h.own p id v es n;have z:=h.lt n;refine dz.mk' e ?_ y ?_ ?_
 ·rw[q 0 (by omega),ZB (by omega)];exact h.z0
 ·intro i g o c a;rw[YW]at a;by_cases b:p=i
  ·rw[if_pos b]at a;split at a
   ·simp only[Za,Zn]at a;obtain⟨rfl,rfl,rfl⟩:=a;exact⟨by rw[q _ (by omega),Yi z],s.2⟩
   ·cases a
  ·rw[if_neg b]at a;have u:=h.own i g o c a;have t:id≠g:=fun e=>b (by subst e;exact h.inj p i id v es o c n a)
   exact⟨by rw[q _ (by omega),ZB t];exact u.1,u.2⟩
 ·intro i j g o c x m a f;rw[YW]at a f;by_cases b:p=i
  ·by_cases d:p=j
   ·omega
   ·rw[if_pos b]at a;rw[if_neg d]at f;split at a
    ·simp only[Za,Zn]at a;obtain⟨rfl,rfl,rfl⟩:=a;exact absurd (h.inj p j id v es x m n f) d
    ·cases a
  ·rw[if_neg b]at a;by_cases d:p=j
   ·rw[if_pos d]at f;split at f
    ·simp only[Za,Zn]at f;obtain⟨rfl,rfl,rfl⟩:=f;exact absurd (h.inj i p id o c v es a n) (fun e=>b e.symm)
    ·cases f
   ·rw[if_neg d]at f;exact h.inj i j g o c x m a f
theorem dz.new (h:dz lo by_ l fst H r xs){p id:Nat}(w:(r::xs)[p]? =some none){v:Nat}{es:List (List PL)}{r':PK}{xs':List PK}(e:(r::xs).set p (some (id,v,es))=r'::xs'){H':List Xz}
  (o:∀i,i≠1->i<H.length->H'[i]? =H[i]?) (q:H'[1]? =some (Dt (V8 xs'))) (t:H.length<=id) (s:H'[id]? =some (T8 v es)):dz lo by_ l fst H' r' xs':=by
 have x:=h.FR;refine dz.mk' e ?_ q ?_ ?_
 ·rw[o 0 (by omega) (by omega)];exact h.z0
 ·intro i g m f a;rw[YW]at a;by_cases b:p=i
  ·rw[if_pos b]at a;split at a
   ·simp only[Za,Zn]at a;obtain⟨rfl,rfl,rfl⟩:=a;exact⟨s,by omega⟩
   ·cases a
  ·rw[if_neg b]at a;have n:=h.own i g m f a;exact⟨by rw[o _ (by omega) (h.lt a)];exact n.1,n.2⟩
 ·intro i j g m f u k a c;rw[YW]at a c;by_cases b:p=i
  ·by_cases d:p=j
   ·omega
   ·rw[if_pos b]at a;rw[if_neg d]at c;have:=h.lt c;split at a
    ·simp only[Za,Zn]at a;omega
    ·cases a
  ·rw[if_neg b]at a;have:=h.lt a;by_cases d:p=j
   ·rw[if_pos d]at c;split at c
    ·simp only[Za,Zn]at c;omega
    ·cases c
   ·rw[if_neg d]at c;exact h.inj i j g m f u k a c
def pH (E:Xb)(m:List Nat)(d:List PL):Prop:=∃a b c e m2 p q ix,d=Sb a b c e m2 p q ix/\m2.length=8/\E.pure 103 [.agg (mo m),.agg (mo m2)]=some (.XY [.agg (mo To),.one (.bool false)])
inductive Eo (E:Xb)(lo by_:PL)(l:Nat)(fst:Bool)(x y z u:PL)(m:List Nat)(es:List (List PL)):List PL->List PL->List (List PL)->Prop
 |mk {a b c e p q e1 e2 e3 e4:PL} {m2 m3:List Nat} {ix:Nat} {outs:List (List PL)} (hm2:m2.length=8) (hm3:m3.length=8)
  (hq:E.pure 103 [.agg (mo m),.agg (mo m2)]=some (.XY [.agg (mo m3),.one (.bool true)]))
  (hdv:E.pure 104 [.agg [x,y,z,u],.agg [a,b,c,e]]=some (.XY [.agg [e1,e2,e3,e4],.one (.int .i64 (.ofNat 0))]))
  (hsub:E.pure 105 [.agg [lo,by_,.int .i64 (.ofNat l),.bool fst],.one (.Xv es),.agg (e1::e2::e3::e4::mo m3),.one q]=some (.XY [.one (.Xv outs),.one (.bool true)])):
   Eo E lo by_ l fst x y z u m es (Sb a b c e m2 p q ix) (e1::e2::e3::e4::mo m3) outs
abbrev BZ (n:Nat)(r:DL)(lp by_:PL)(it nd j:Nat):List (Nat×DV):=[(2,.one (.ptr 0 0 0 0)),(7,.one (.own 1 0 0 n)),(8,.one r),(9,.one (.p lp)),(10,.one (.ptr it 0 0 0)),(32,.one (.p by_)),(33,.one (.p (.int .i64 (.ofNat nd)))),(34,.one (.p (.int .i64 (.ofNat j))))]
theorem aK {E:Xb}{K n it:Nat}(g:E.mode=md){r:DL}{lp by_:PL}{f:List (List PL)}(l:Sl by_ f)(h:f.length<1000000){m:List Nat}(t:m.length=8){x y z u:PL}:∀(c i k:Nat) (H:List Xz),(∀j,i<=j->j<i+c->∃d,f[j]? =some d/\pH E m d)->H[it]? =some (Um x y z u m)->
  ∃J,Xc E K 0 [2,7,8,9,10,32,33,34] x67_1 (k+c) ⟨BZ n r lp by_ it f.length i,H⟩=Xc E K 0 [2,7,8,9,10,32,33,34] x67_1 k ⟨BZ n r lp by_ it f.length (i+c),H++J⟩
 |0,i,k,H,_,_=>⟨[],by rw[ZN];rfl⟩
 |c+1,i,k,H,hs,h10=>by
  obtain⟨d,B,a,b,D,e,L,p,q,I,rfl,s,C⟩:=hs i (Zh _) (by omega);obtain⟨o,w⟩:=zS (K:=K) (k:=k+c) (n:=n) (r:=r) (lp:=lp) g l h B t s C h10;obtain⟨v,A⟩:=aK g l h t c (i+1) k (H++o) (fun j F G=>hs j (by omega) (by omega)) (X1 h10 o);refine⟨o++v,?_⟩;rw[<-Zq,show i+(c+1)=i+1+c by omega];exact w.trans A
theorem tT {E:Xb}{K k n it:Nat}{r:DL}{lp by_:PL}{nd:Nat}(H:List Xz):
  ∃a,Xc E K 0 [2,7,8,9,10,32,33,34] x67_1 (k+1) ⟨BZ n r lp by_ it nd nd,H⟩=some (.exit 2,⟨a,H⟩)/\T4 a n r (.p lp)/\Xh a 10=some (.one (.ptr it 0 0 0)):=by
 apply VM
 ·rw[Xc];simp only[Xp,Xq,reduceIte,Nat.reduceEqDiff,x67_1,Zv];rfl
 ·simp only[T4,Xp,reduceIte,Nat.reduceEqDiff,and_self]
theorem wz {xs:List PK}{j:Nat}{x:PK}(h:xs[j]? =some x):(V8 xs)[j]? =some [Qk x]:=by simp[V8,h]
theorem jY (xs:List PK)(j:Nat)(x:PK):(V8 xs).set j [Qk x]=V8 (xs.set j x):=by simp[V8,List.map_set]
def fy (fst:Bool)(cs:List (List (List PL)))(j:Nat)(t:List PL):List (List (List PL)):=match fst with
 |true=>cs
 |false=>match cs[j]? with
  |some q=>cs.set j (q++[t])
  |none=>cs
theorem Ce {E:Xb}{K k j it:Nat}(B:E.mode=md){I es:List (List PL)}{c0:List PL}(D:Sl by_ I)(C:I.length<1000000)(X:xs.length=I.length){m:List Nat}{x y z u:PL}{d s:List PL}{g:List (List PL)}(R:I[j]? =some d)(V:m.length=8)(A:∀d∈es,d.length=12)
  (hd:Eo E lo by_ l fst x y z u m es d s g) (w:H[it]? =some (Um x y z u m)) (f:dz lo by_ l fst H r xs) (hc:∀x∈xs,(wR x).length<1000000):
  ∃o Y F,Xc E K 0 [2,7,8,9,10,32,33,34] x67_1 (k+1) ⟨BZ xs.length (Qk r) (.Xv (c0::es)) by_ it I.length j,H⟩=some (.exit 1,⟨o,Y⟩)/\T4 o xs.length (Qk r) (.p (.Xv g))/\dz lo by_ l fst Y r F/\F.map wR=fy fst (xs.map wR) j s/\F.length=xs.length:=by
 obtain @⟨a,b,c,e,p,q,e1,e2,e3,e4,m2,m3,ix,g,hm2,hm3,hq,hdv,hsub⟩:=hd;have U:j<xs.length:=by rw[X];exact(Zd.1 R).1
 cases fst with
 |true=>
  obtain⟨o,J,L,M⟩:=zW (K:=K) (k:=k) (n:=xs.length) (r:=Qk r) B D C R V hm2 hm3 A hq hdv hsub f.z0 w;exact⟨o,_,xs,L,M,f.app J,rfl,rfl⟩
 |false=>
  obtain⟨x,S⟩:∃x,xs[j]? =some x:=⟨_,Zg U⟩;have Q:=wz S;have N:(V8 xs).length=xs.length:=by simp
  have h:(r::xs)[j+1]? =some x:=by rw[Z9];exact S
  have P:∀t,fy false (xs.map wR) j t=(xs.map wR).set j (wR x++[t]):=fun t=>by
   simp only[fy,Zx,S,ZU]
  cases x with
  |none=>
   obtain⟨o,J,L,M,g3⟩:=zV (K:=K) (k:=k) (n:=xs.length) (r:=Qk r) B D C R V hm2 hm3 A hq hdv hsub f.z0 w f.z1 N Q;refine⟨o,_,_,L,M,f.new (p:=j+1) (id:=H.length+4) (v:=0) (es:=[e1::e2::e3::e4::mo m3]) h (r':=r) (by rw[YZ]) (fun i T hl=> ?_) ?_ (by omega) ?_,?_,by rw[ZZ]⟩
   ·rw[ZC (by rw[ZZ];exact hl),ZB (fun e=>T e.symm)]
   ·rw[ZC (by rw[ZZ];exact f.FR),Yi f.FR,<-jY];rfl
   ·rw[ZI (by rw[ZZ];omega),ZZ,YD];exact g3
   ·rw[P,List.map_set];rfl
  |some q=>
   obtain⟨id,v,G⟩:=q;have Z:=f.own (j+1) id v G h;have W:=hc _ (Zt S);obtain⟨o,J,L,M⟩:=zU (K:=K) (k:=k) (n:=xs.length) (r:=Qk r) B D C R V hm2 hm3 A hq hdv hsub f.z0 w f.z1 N (id:=id) (v:=v) (qs:=G) Q Z.1 Z.2 W;have O:1<(H.set id (T8 (v+1) (G++[e1::e2::e3::e4::mo m3]))).length:=by rw[ZZ];exact f.FR
   refine⟨o,_,_,L,M,f.app J|>.grow (p:=j+1) (id:=id) (v:=v) (es:=G) h (v+1) (G++[e1::e2::e3::e4::mo m3]) (r':=r) (by rw[YZ]) (fun i T=> ?_) ?_,?_,by rw[ZZ]⟩
   ·rw[Ql (f.lt h),List.getElem?_append,List.getElem?_append,ZZ,ZB (fun e=>T e.symm)]
   ·rw[ZC (by rw[ZZ];exact O),Yi O,<-jY];rfl
   ·rw[P,List.map_set];rfl
end Go.Proofs.YtefpgecinlekpaaGreat
namespace Go.Proofs.YtefpgecinlekpaaGreat
open Go.Ev Go.Num
theorem wu {E:Xb}{K k n l:Nat}(L:E.mode=md){lo by_:PL}{g es:List (List PL)}(t:Sl by_ g)(M:g.length<1000000){m:List Nat}(B:m.length=8)(o:∀d∈es,d.length=12){x y z u:PL}{H b:List Xz}{T:List (Nat×DV)}
  (F:H[0]? =some (S5 lo by_ l (.bool false))) (C:Xc E K 0 [2,7,8,9,10,32,33,34] x67_1 K ⟨BZ n (.p .XJ) (.Xv ((x::y::z::u::mo m)::es)) by_ H.length g.length 0,H++[Um x y z u m]⟩=some (.exit 2,⟨T,b⟩)) (s:T4 T n (.p .XJ) (.p (.Xv ((x::y::z::u::mo m)::es)))) (N:Xh T 10=some (.one (.ptr H.length 0 0 0)))
  (a:b[H.length]? =some (Um x y z u m)) (G:b[0]? =some (S5 lo by_ l (.bool false))):
  ∃J,Xc E K 0 [2,7,8,9] x67_2 (k+1) ⟨[(2,.one (.ptr 0 0 0 0)),(7,.one (.own 1 0 0 n)),(8,.one (.p .XJ)),(9,.one (.p (.Xv ((x::y::z::u::mo m)::es))))],H⟩=Xc E K 0 [2,7,8,9] x67_2 k ⟨[(2,.one (.ptr 0 0 0 0)),(7,.one (.own 1 0 0 n)),(8,.one (.own (b.length+1) 0 0 1)),(9,.one (.p (.Xv es)))],b++J⟩/\J[1]? =some (T8 0 [x::y::z::u::mo m]):=by
 obtain⟨R,S,U,V⟩:=s;have D:Sl (.Xv ((x::y::z::u::mo m)::es)) _:=.Xv;have e:=D.len;have O:=fun(I:HF) (P:IntKind)=>D.idx (h:=I) (k:=P) (i:=0) (sz:=12) rfl (by simp[Xy,B])
 have Q:=VW (c:=x::y::z::u::mo m) (es:=es) o;have W:(Xm m).take 8=Xm m:=Zb (by rw[Xa];omega);have X:(Xm m).drop 8=[]:=Zj (by rw[Xa];omega);have w:=Xo m;have v:=X1 F;have A:=X1 G;have j:=X1 a;have r:=t.len;simp only[Um]at j a C;simp only[S5]at v F A G;have q:∀(n:Nat) (c:List DL) (f:List Nat),WK 63 12 128 n [c] f=some ⟨.one (.own n 0 0 1),[⟨false,0,12,[c],false,63⟩],[],f⟩:=fun _ _ _=>rfl
 apply Exists.intro;refine⟨?_,?_⟩
 ·rw[Xc];simp(decide:=true)only[Xp,Xq,reduceIte,Nat.reduceAdd,x67_2,XS,Xa,Wa,Wf,Zq,Zl,Zs,YF,e,O,Q,W,v,A,a,r,C,R,S,U,V,N,B,q];rfl
 ·simp only[Z9,Yq,T8,pc,XS,Zw,ZT]
theorem wq {E:Xb}{K k n l:Nat}(M:E.mode=md){lo by_:PL}{j es:List (List PL)}(v:Sl by_ j)(N:j.length<1000000){m:List Nat}(C:m.length=8)(q:∀d∈es,d.length=12){x y z u:PL}{H b:List Xz}{T:List (Nat×DV)}
  (G:H[0]? =some (S5 lo by_ l (.bool true))) (D:Xc E K 0 [2,7,8,9,10,32,33,34] x67_1 K ⟨BZ n (.p .XJ) (.Xv ((x::y::z::u::mo m)::es)) by_ H.length j.length 0,H++[Um x y z u m]⟩=some (.exit 2,⟨T,b⟩)) (t:T4 T n (.p .XJ) (.p (.Xv ((x::y::z::u::mo m)::es)))) (O:Xh T 10=some (.one (.ptr H.length 0 0 0)))
  (a:b[H.length]? =some (Um x y z u m)) (I:b[0]? =some (S5 lo by_ l (.bool true))):
  ∃g J,Xc E K 0 [2,7,8,9] x67_2 (k+1) ⟨[(2,.one (.ptr 0 0 0 0)),(7,.one (.own 1 0 0 n)),(8,.one (.p .XJ)),(9,.one (.p (.Xv ((x::y::z::u::mo m)::es))))],H⟩=some (.exit 0,⟨g,b++J⟩)/\(Xh g 7=some (.one (.own 1 0 0 n))/\Xh g 8=some (.one (.own (b.length+1) 0 0 1)))/\J[1]? =some (T8 0 [x::y::z::u::mo m]):=by
 obtain⟨R,S,U,V⟩:=t;have F:Sl (.Xv ((x::y::z::u::mo m)::es)) _:=.Xv;have e:=F.len;have P:=fun(L:HF) (Q:IntKind)=>F.idx (h:=L) (k:=Q) (i:=0) (sz:=12) rfl (by simp[Xy,C])
 have Y:=VW (c:=x::y::z::u::mo m) (es:=es) q;have W:(Xm m).take 8=Xm m:=Zb (by rw[Xa];omega);have X:(Xm m).drop 8=[]:=Zj (by rw[Xa];omega);have w:=Xo m;have A:=X1 G;have B:=X1 I;have o:=X1 a;have s:=v.len;simp only[Um]at o a D;simp only[S5]at A G B I;have r:∀(n:Nat) (c:List DL) (f:List Nat),WK 63 12 128 n [c] f=some ⟨.one (.own n 0 0 1),[⟨false,0,12,[c],false,63⟩],[],f⟩:=fun _ _ _=>rfl
 apply Fi
 ·rw[Xc];simp(decide:=true)only[Xp,Xq,reduceIte,Nat.reduceAdd,x67_2,XS,Xa,Wa,Wf,Zq,Zl,Zs,YF,e,P,W,A,B,a,s,D,R,S,U,V,O,C,r];rfl
 ·simp only[Xp,reduceIte,Nat.reduceEqDiff,and_self]
 ·simp only[Z9,Yq,T8,pc,XS,Zw,ZT]
theorem wo {E:Xb}{K k n l:Nat}(S:E.mode=md){lo by_:PL}{r es:List (List PL)}(D:Sl by_ r)(U:r.length<1000000){m:List Nat}(I:m.length=8)(A:∀d∈es,d.length=12){x y z u:PL}{H f:List Xz}{T:List (Nat×DV)}{id v:Nat}{e:List (List PL)}(a:f[id]? =some (T8 v e))(V:e.length<1000000)
  (N:H[0]? =some (S5 lo by_ l (.bool false))) (L:Xc E K 0 [2,7,8,9,10,32,33,34] x67_1 K ⟨BZ n (.own id v 0 e.length) (.Xv ((x::y::z::u::mo m)::es)) by_ H.length r.length 0,H++[Um x y z u m]⟩=some (.exit 2,⟨T,f⟩)) (C:T4 T n (.own id v 0 e.length) (.p (.Xv ((x::y::z::u::mo m)::es)))) (W:Xh T 10=some (.one (.ptr H.length 0 0 0)))
  (g:f[H.length]? =some (Um x y z u m)) (q:f[0]? =some (S5 lo by_ l (.bool false))):
  ∃J,Xc E K 0 [2,7,8,9] x67_2 (k+1) ⟨[(2,.one (.ptr 0 0 0 0)),(7,.one (.own 1 0 0 n)),(8,.one (.own id v 0 e.length)),(9,.one (.p (.Xv ((x::y::z::u::mo m)::es))))],H⟩=Xc E K 0 [2,7,8,9] x67_2 k ⟨[(2,.one (.ptr 0 0 0 0)),(7,.one (.own 1 0 0 n)),(8,.one (.own id (v+1) 0 (e++[x::y::z::u::mo m]).length)),(9,.one (.p (.Xv es)))],f.set id (T8 (v+1) (e++[x::y::z::u::mo m]))++J⟩:=by
 obtain⟨s2,s7,s8,s9⟩:=C;have M:Sl (.Xv ((x::y::z::u::mo m)::es)) _:=.Xv;have o:=M.len;have Y:=fun(R:HF) (Z:IntKind)=>M.idx (h:=R) (k:=Z) (i:=0) (sz:=12) rfl (by simp[Xy,I])
 have s1:=VW (c:=x::y::z::u::mo m) (es:=es) A;have tm:(Xm m).take 8=Xm m:=Zb (by rw[Xa];omega);have dm:(Xm m).drop 8=[]:=Zj (by rw[Xa];omega);have w:=Xo m;have G:=X1 N;have Q:=X1 q;have s:=X1 g;have B:=D.len;simp only[Um]at s g L;simp only[S5]at G N Q q;have st:=fun X b=>Ql (H:=f) (Zd.1 a).1 X b
 have t:=X1 a;have O:(e.length+1)*128<=lim:=by unfold lim;omega
 have P:e.length+1<=9223372036854775807:=by omega
 have F:∀b X,id≠0->(f.set id b++X)[0]? =some ⟨false,0,4,[[.p lo,.p by_,.p (.int .i64 (.ofNat l)),.p (.bool false)]],false,94⟩:=fun b X h0=>X1 (by rw[ZB (by omega)];exact q) X
 have j:id≠0:=by
  rintro rfl;rw[q]at a;cases a
 apply Exists.intro;rw[Xc];simp(decide:=true)only[Xp,Xq,reduceIte,Nat.reduceAdd,x67_2,XS,Xa,Wa,Wf,Zl,Zs,YF,o,Y,s1,tm,G,g,B,L,s2,s7,s8,s9,W,I,st,t,O,P,Wi,Vn,F _ _ j];rfl
theorem wm {E:Xb}{K k n l:Nat}(U:E.mode=md){lo by_:PL}{s es:List (List PL)}(F:Sl by_ s)(V:s.length<1000000){m:List Nat}(L:m.length=8)(B:∀d∈es,d.length=12){x y z u:PL}{H f:List Xz}{T:List (Nat×DV)}{id v:Nat}{e:List (List PL)}(a:f[id]? =some (T8 v e))(W:e.length<1000000)
  (O:H[0]? =some (S5 lo by_ l (.bool true))) (M:Xc E K 0 [2,7,8,9,10,32,33,34] x67_1 K ⟨BZ n (.own id v 0 e.length) (.Xv ((x::y::z::u::mo m)::es)) by_ H.length s.length 0,H++[Um x y z u m]⟩=some (.exit 2,⟨T,f⟩)) (D:T4 T n (.own id v 0 e.length) (.p (.Xv ((x::y::z::u::mo m)::es)))) (Y:Xh T 10=some (.one (.ptr H.length 0 0 0)))
  (g:f[H.length]? =some (Um x y z u m)) (q:f[0]? =some (S5 lo by_ l (.bool true))):
  ∃r J,Xc E K 0 [2,7,8,9] x67_2 (k+1) ⟨[(2,.one (.ptr 0 0 0 0)),(7,.one (.own 1 0 0 n)),(8,.one (.own id v 0 e.length)),(9,.one (.p (.Xv ((x::y::z::u::mo m)::es))))],H⟩=some (.exit 0,⟨r,f.set id (T8 (v+1) (e++[x::y::z::u::mo m]))++J⟩)/\(Xh r 7=some (.one (.own 1 0 0 n))/\Xh r 8=some (.one (.own id (v+1) 0 (e++[x::y::z::u::mo m]).length))):=by
 obtain⟨s2,s7,s8,s9⟩:=D;have N:Sl (.Xv ((x::y::z::u::mo m)::es)) _:=.Xv;have o:=N.len;have Z:=fun(S:HF) (kd:IntKind)=>N.idx (h:=S) (k:=kd) (i:=0) (sz:=12) rfl (by simp[Xy,L])
 have s1:=VW (c:=x::y::z::u::mo m) (es:=es) B;have tm:(Xm m).take 8=Xm m:=Zb (by rw[Xa];omega);have dm:(Xm m).drop 8=[]:=Zj (by rw[Xa];omega);have w:=Xo m;have I:=X1 O;have R:=X1 q;have t:=X1 g;have C:=F.len;simp only[Um]at t g M;simp only[S5]at I O R q;have st:=fun X b=>Ql (H:=f) (Zd.1 a).1 X b
 have A:=X1 a;have P:(e.length+1)*128<=lim:=by unfold lim;omega
 have Q:e.length+1<=9223372036854775807:=by omega
 have G:∀b X,id≠0->(f.set id b++X)[0]? =some ⟨false,0,4,[[.p lo,.p by_,.p (.int .i64 (.ofNat l)),.p (.bool true)]],false,94⟩:=fun b X h0=>X1 (by rw[ZB (by omega)];exact q) X
 have j:id≠0:=by
  rintro rfl;rw[q]at a;cases a
 apply zD
 ·rw[Xc];simp(decide:=true)only[Xp,Xq,reduceIte,Nat.reduceAdd,x67_2,XS,Xa,Wa,Wf,Zl,Zs,YF,o,Z,tm,I,g,C,M,s2,s7,s8,s9,Y,L,st,A,P,Q,Wi,Vn,G _ _ j];rfl
 ·simp only[Xp,reduceIte,Nat.reduceEqDiff,and_self,Zl]
end Go.Proofs.YtefpgecinlekpaaGreat
