/- Program: Same where two polynomials are equal. -/
import Derived.Test.YtefpgecinlekpaaGreatGrE
import Derived.Test.YtefpgecinlekpaaGreatQMin
set_option maxHeartbeats 16000000
set_option maxRecDepth 100000
namespace Go.Proofs.YtefpgecinlekpaaGreat
open Go.Ev Go.Num
theorem EO (z:Int):eT z=.ofNat 1\/eT z=.ofNat 0\/eT z=.negSucc 0:=by
 unfold eT;split
 ·exact .inr (.inl rfl)
 ·split
  ·exact .inr (.inr rfl)
  ·exact .inl rfl
theorem vn {B:Xr}(a:Std B){c d:List PL}{z:Int}(f:UB c z)(g:UB d z)(n:(Xd z.natAbs).length<100000000000):Xs B 135 [.agg c,.agg d] (.one (.int .i64 (.ofNat 0))):=by
 have s1:=NY a f;have s2:=NY a g;obtain⟨o,rfl,j⟩:=f;obtain⟨p,rfl,k⟩:=g;have h:=Qe a j k (Xn _) (Xn _) (Ws _) (Ws _) (by omega) (by omega);have i:=Qe a k j (Xn _) (Xn _) (Ws _) (Ws _) (by omega) (by omega);have l:dH (val (Xd z.natAbs)) (val (Xd z.natAbs))=.ofNat 0:=by unfold dH;rw[if_neg (Zv _),if_neg (Zv _)]
 rw[l]at h i;have b:=EO z;refine Xs.of (a.X6 _ _ rfl) ((s1.Xi.and (s2.Xi.and (h.Xi.and (i.Xi.and a.Xi)))).mono fun E K ⟨e1,e2,e3,m,e⟩=> ?_);rcases b with b|b|b<;>rw[b]at e1 e2<;>
  simp(decide:=true)only[Xp,Xq,WR,reduceIte,Nat.reduceAdd,x135,e,XW,e1,e2,e3,m]
theorem Vq {a b k:Nat}(e:(Xd a).length<=k)(f:(Xd b).length<=k):(Xd (a*b)).length<=2*k:=by
 have c:=WN (Xn a);have d:=WN (Xn b);rw[Xj]at c d;have g:4294967296^(Xd a).length<=4294967296^k:=Nat.pow_le_pow_right (by decide) e;have h:4294967296^(Xd b).length<=4294967296^k:=Nat.pow_le_pow_right (by decide) f;refine Vc ?_;rw[show 2*k=k+k by omega,Nat.pow_add];generalize (4294967296:Nat)^k=M at *;exact YY (by omega) (by omega)
theorem vm {B:Xr}(h:Std B){c d:List PL}{x:Rat}(s:RX c x)(t:RX d x)(i:Sq x):Xs B 98 [.agg c,.agg d] (.one (.int .i64 (.ofNat 0))):=by
 have s1:=Rt h s;have s2:=Rt h t;obtain⟨n,m,J,e,rfl,A,C⟩:=s;obtain⟨N,M,w,L,rfl,D,F⟩:=t;obtain⟨p,G,u⟩:=WX h A F i.num i.den;obtain⟨q,H,v⟩:=WX h D C i.num i.den;have j:(Xd (x.num*(x.den:Int)).natAbs).length<100000000000:=by
  rw[Yg,ZY];have:=Vq (a:=x.num.natAbs) (b:=x.den) (k:=10000000) (by have:=i.1;omega) (by have:=i.2;omega);omega
 have I:=vn h u v j;obtain⟨O,o,rfl⟩:=u.len;obtain⟨P,r,rfl⟩:=v.len;refine Xs.of (h.X6 _ _ rfl) ((s1.Xi.and (s2.Xi.and (G.Xi.and (H.Xi.and (I.Xi.and h.Xi))))).mono fun E K ⟨e1,e2,e3,y,z,l⟩=> ?_);have f:o.scalar=true\/o.scalar=false:=by cases o.scalar<;>simp
 have g:r.scalar=true\/r.scalar=false:=by cases r.scalar<;>simp
 rcases EO x.num with hs|hs|hs<;>rw[hs]at e1 e2<;>rcases f with f|f<;>rcases g with g|g<;>
  simp(decide:=true)only[Xp,Xq,WR,reduceIte,Nat.reduceAdd,x98,l,XW,f,g,e1,e2,e3,y,z]
theorem vf {B:Xr}(f:Std B){c d:List PL}{t:Qm}(l:Vd c t)(m:Vd d t)(n:Sq t.1):Xs B 97 [.agg c,.agg d] (.one (.bool true)):=by
 obtain⟨a,b,c,e,rfl,i,g⟩:=l;obtain⟨r,s,u,v,rfl,j,-⟩:=m;have o:=vm f i j n;have k:=TG g.1 g.1;have p:=g.1;have q:(Xm t.2).take 8=Xm t.2:=Zb (by rw[Xa];omega);refine Xs.of (f.X6 _ _ rfl) ((o.Xi.and f.Xi).mono fun E K ⟨e1,h⟩=> ?_);simp(decide:=true)only[Xp,Xq,WR,reduceIte,Nat.reduceAdd,x97,h,XW,e1,k,q,p,XS,Xa]
abbrev FV (la lb:PL)(n i:Nat):List (Nat×DV):=[(1,.one (.p lb)),(2,.one (.p (.fn 97 []))),(15,.one (.p la)),(16,.one (.p (.int .i64 (.ofNat n)))),(17,.one (.p (.int .i64 (.ofNat i))))]
inductive FA (E:Xb):List (List PL)->List (List PL)->Prop
 |nil:FA E [] []
 |cons {c1 c2 c3 c4 d1 d2 d3 d4:PL} {m n:List Nat} {cs ds:List (List PL)} (hm:m.length=8) (hn:n.length=8) (h1:E.pure 97 [.agg (c1::c2::c3::c4::mo m),.agg (d1::d2::d3::d4::mo n)]=some (.one (.bool true))) (h:FA E cs ds):FA E ((c1::c2::c3::c4::mo m)::cs) ((d1::d2::d3::d4::mo n)::ds)
theorem tQ {B:Xr}(l:Std B):∀{j g:List (List PL)} {i:List Qm},X2 j i->X2 g i->Sz i->X0 B fun E _=>FA E j g
 |[],g,_,.nil,h,_=>by cases h;exact X0.of fun _ _=>.nil
 |c::j,g,t::i,.cons h1 h,k,hs=>by
  cases k with
  |@cons d _ g _ n k=>
   have e1:=vf l h1 n (hs t (Ze ..));obtain⟨a,b,e,f,rfl,-,m⟩:=h1;obtain⟨p,q,r,s,rfl,-,-⟩:=n;exact((tQ l h k fun u o=>hs u (Zc _ o)).and e1.Xi).mono fun E K ⟨x,y⟩=>.cons m.1 m.1 y x
theorem zI {E:Xb}{K k i:Nat}(b:E.mode=md){g j q r c3 s t u v x:PL}{m n:List Nat}{a o:List (List PL)}(L:Sl g a)(M:Sl j o)(y:a[i]? =some (q::r::c3::s::mo m))(G:o[i]? =some (t::u::v::x::mo n))(z:m.length=8)(A:n.length=8)(R:a.length<1000000)
  (F:E.pure 97 [.agg (q::r::c3::s::mo m),.agg (t::u::v::x::mo n)]=some (.one (.bool true))) (H:List Xz):
  ∃B,Xc E K 0 [1,2,15,16,17] x96_1 (k+1) ⟨FV g j a.length i,H⟩=Xc E K 0 [1,2,15,16,17] x96_1 k ⟨FV g j a.length (i+1),B⟩:=by
 have e:i<a.length:=(Zd.mp y).1;have I:=fun(d:HF) (f:IntKind)=>L.idx (h:=d) (k:=f) (sz:=12) y (by simp[Xy,z])
 have J:=fun(d:HF) (f:IntKind)=>M.idx (h:=d) (k:=f) (sz:=12) G (by simp[Xy,A])
 have D:Xe .i64 (.ofNat (i+1))=.ofNat (i+1):=wrap_i64 (by omega);have N:(Xm m).take 8=Xm m:=Zb (by rw[Xa];omega);have O:(Xm n).take 8=Xm n:=Zb (by rw[Xa];omega);have P:(Xm m).drop 8=[]:=Zj (by rw[Xa];omega);have Q:(Xm n).drop 8=[]:=Zj (by rw[Xa];omega);have w:=Xo m;have S:=Xo n;have C:∀(h:HF) (l c:List DL),UY E h [.one (.p (.fn 97 [])),.agg l,.agg c]=WO E h 97 [.agg l,.agg c]:=fun _ _ _=>rfl
 have ch:∀(l c:List DL),XG E .U3 [.one (.p (.fn 97 [])),.agg l,.agg c]=false:=fun l c=>by
  show W1 E 97=false;simp only[W1,b,XW]
 apply Exists.intro;rw[Xc];simp(decide:=true)only[Xp,Xq,reduceIte,Nat.reduceAdd,x96_1,b,XW,e,I,J,C,ch,F,D,N,O,z,A,XS,Xa,XK,XN,Vh,V6,Wa,Wf,Zq,Zl,Zs];rfl
theorem eq_go {E:Xb}{K:Nat}(g:E.mode=md){o p:PL}{a l:List (List PL)}(C:Sl o a)(D:Sl p l)(y:a.length<1000000){b m:List (List PL)}(h:FA E b m):∀(i k:Nat) (H:List Xz),a.drop i=b->l.drop i=m->i+b.length=a.length->b.length<k->
  ∃s q,Xc E K 0 [1,2,15,16,17] x96_1 k ⟨FV o p a.length i,H⟩=some (.exit 0,⟨s,q⟩):=by
 induction h with
 |nil=>
  intro i k H _ _ c n;obtain⟨k,rfl⟩:∃j,k=j+1:=⟨k-1,by omega⟩;simp only[Zu,Z3]at c;subst c;apply Exists.intro;apply Exists.intro;rw[Xc];simp only[Xp,Xq,reduceIte,Nat.reduceEqDiff,x96_1,Zv];rfl
 |cons z A x h B=>
  intro i k H d f c n;obtain⟨k,rfl⟩:∃j,k=j+1:=⟨k-1,by omega⟩;simp only[Zi]at c n;obtain⟨v,t⟩:=Xf d;obtain⟨w,u⟩:=Xf f;obtain⟨r,e⟩:=zI (K:=K) (k:=k) g C D v w z A y x H;rw[e];exact B (i+1) k r t u (by omega) (by omega)
theorem ve {B:Xr}(b:Std B){d f:PL}{c:List Qm}(p:PQ d c)(q:PQ f c)(r:Sz c)(x:c.length<1000000):Xs B 61 [.one d,.one f] (.one (.bool true)):=by
 obtain⟨n,l,j⟩:=p;obtain⟨v,m,k⟩:=q;have e:=j.length;have h:=k.length;have o:Xs B 96 [.one d,.one f,.one (.fn 97 [])] (.one (.bool true)):=by
  refine Xs.of (b.X6 _ _ rfl) (((tQ b j k r).and (b.Xi.and (X0.ge (c.length+1)))).mono fun E K ⟨e1,a,w⟩=> ?_);obtain⟨u,t,g⟩:=eq_go (K:=K) a l m (by omega) e1 0 K [] rfl rfl (by omega) (by omega);have s:=l.len;have i:=m.len;rw[h,<-e]at i;simp only[FV]at g;simp(decide:=true)only[Xp,Xq,reduceIte,Nat.reduceAdd,x96,s,i,g]
 refine Xs.of (b.X6 _ _ rfl) ((o.Xi.and b.Xi).mono fun E K ⟨e1,a⟩=> ?_);simp(decide:=true)only[Xp,Xq,WR,reduceIte,Nat.reduceAdd,x61,a,XW,e1]
inductive EG (E:Xb):PL->List PL->List PL->PL->Prop
 |nil (r:PL):EG E r [] [] r
 |cons {r q l x r' rf:PL} {qs ls:List PL} (h1:E.pure 54 [.one q,.one l]=some (.XY [.one x,.one (.int .i64 (.ofNat 0))])) (h2:E.pure 55 [.one r,.one x]=some (.one r')) (h:EG E r' qs ls rf):EG E r (q::qs) (l::ls) rf
abbrev FN (Q L r:PL)(n i:Nat):List (Nat×DV):=[(0,.one (.p Q)),(1,.one (.p L)),(6,.one (.p r)),(16,.one (.p (.int .i64 (.ofNat n)))),(17,.one (.p (.int .i64 (.ofNat i))))]
theorem yp {E:Xb}{K k i:Nat}(c:E.mode=md){Q L q l x r f:PL}{qs ls:List PL}(t:Sl Q (Xu qs))(s:Sl L (Xu ls))(n:qs[i]? =some q)(e:ls[i]? =some l)(u:ls.length<1000000)
  (j:E.pure 54 [.one q,.one l]=some (.XY [.one x,.one (.int .i64 (.ofNat 0))])) (m:E.pure 55 [.one r,.one x]=some (.one f)) (H:List Xz):
  Xc E K 0 [0,1,6,16,17] x16_1 (k+1) ⟨FN Q L r ls.length i,H⟩=Xc E K 0 [0,1,6,16,17] x16_1 k ⟨FN Q L f ls.length (i+1),H⟩:=by
 have b:i<ls.length:=(Zd.mp e).1;have o:=fun(a:HF) (d:IntKind)=>t.idx (h:=a) (k:=d) (sz:=1) (XI n) rfl
 have p:=fun(a:HF) (d:IntKind)=>s.idx (h:=a) (k:=d) (sz:=1) (XI e) rfl
 have g:Xe .i64 (.ofNat (i+1))=.ofNat (i+1):=wrap_i64 (by omega);rw[Xc];simp(decide:=true)only[Xp,Xq,VN,WR,reduceIte,Nat.reduceEqDiff,Nat.reduceAdd,x16_1,c,XW,b,o,p,j,m,g]
theorem E4 {E:Xb}{K:Nat}(c:E.mode=md){Q L:PL}{f a:List PL}(y:Sl Q (Xu f))(x:Sl L (Xu a))(u:a.length<1000000){r j:PL}{qs ls:List PL}(h:EG E r qs ls j):∀(i k:Nat) (H:List Xz),f.drop i=qs->a.drop i=ls->i+ls.length=a.length->ls.length<k->
  ∃e,Xc E K 0 [0,1,6,16,17] x16_1 k ⟨FN Q L r a.length i,H⟩=some (.exit 0,⟨e,H⟩)/\Xh e 6=some (.one (.p j)):=by
 induction h with
 |nil r=>
  intro i k H _ _ b g;obtain⟨k,rfl⟩:∃d,k=d+1:=⟨k-1,by omega⟩;simp only[Zu,Z3]at b;subst b;apply VM
  ·rw[Xc];simp only[Xp,Xq,reduceIte,Nat.reduceEqDiff,x16_1,Zv];rfl
  ·simp only[Xp,reduceIte,Nat.reduceEqDiff]
 |cons q s h w=>
  intro i k H v t b g;obtain⟨k,rfl⟩:∃d,k=d+1:=⟨k-1,by omega⟩;simp only[Zi]at b g;obtain⟨n,l⟩:=Xf v;obtain⟨o,m⟩:=Xf t;rw[yp c y x n o u q s H];exact w (i+1) k H l m (by omega) (by omega)
theorem qz {B:Xr}(e:Std B){Q L i:PL}{c a:List PL}(k:Sl Q (Xu c))(j:Sl L (Xu a))(n:c.length=a.length)(q:a.length<100000)(h:X0 B fun E _=>EG E .XJ c a i):Xs B 16 [.one Q,.one L] (.XY [.one i,.one (.int .i64 (.ofNat 0))]):=by
 refine Xs.of (e.X6 _ _ rfl) ((h.and (e.Xi.and (X0.ge (a.length+1)))).mono fun E K ⟨l,b,p⟩=> ?_);obtain⟨o,d,m⟩:=E4 (K:=K) b k j (by omega) l 0 K [] rfl rfl (by omega) (by omega);have f:=k.len;have g:=j.len;rw[XH,n]at f;rw[XH]at g;simp only[FN]at d;simp(decide:=true)only[Xp,Xq,reduceIte,Nat.reduceAdd,x16,f,g,d,m]
theorem yn {B:Xr}(a:Std B){Q L:PL}{e d:List PL}(i:Sl Q (Xu e))(h:Sl L (Xu d))(f:e.length≠d.length):Xs B 16 [.one Q,.one L] (.XY [.one .XJ,.one (.int .i64 (.ofNat 1))]):=by
 refine Xs.of (a.X6 _ _ rfl) (a.Xi.mono fun E K g=> ?_);have b:=i.len;have c:=h.len;rw[XH]at b c;simp(decide:=true)only[Xp,Xq,reduceIte,Nat.reduceAdd,x16,b,c,f]
theorem xG {B:Xr}(a:Std B){Q L:PL}{e d:List PL}(i:Sl Q (Xu e))(h:Sl L (Xu d))(f:e.length≠d.length):Xs B 17 [.one Q,.one L] (.XY [.one .XJ,.one (.int .i64 (.ofNat 1))]):=by
 refine Xs.of (a.X6 _ _ rfl) (a.Xi.mono fun E K g=> ?_);have b:=i.len;have c:=h.len;rw[XH]at b c;simp(decide:=true)only[Xp,Xq,reduceIte,Nat.reduceAdd,x17,b,c,f]
structure kh (E:Xb)(p lo t1 t2 t3 t4:PL)(m:List Nat)(b:Bool):Prop where
 h:E.pure 58 [.one p,.one lo]=some (.XY [.agg (t1::t2::t3::t4::mo m),.one (.bool b)])
 m8:m.length=8
abbrev AI (P Q L lo:PL)(is:Bool)(n i:Nat):List (Nat×DV):=[(0,.one (.p P)),(1,.one (.p Q)),(2,.one (.p L)),(3,.one (.p lo)),(9,.one (.ptr 0 0 0 0)),(10,.one (.p (.bool is))),(37,.one (.p (.int .i64 (.ofNat n)))),(38,.one (.p (.int .i64 (.ofNat i))))]
section
variable {E:Xb}{K k i:Nat}{P Q L lo q l u1 u2 u3 u4 s1 s2 s3 s4 t1 t2 t3 t4:PL}{m s t:List Nat}{qs ls:List PL}
theorem ym (d:E.mode=md)(D:Sl Q (Xu qs))(C:Sl L (Xu ls))(x:qs[i]? =some q)(o:ls[i]? =some l)(N:ls.length<1000000)(c:m.length=8)(is:Bool){r:Bool}(v:kh E q lo s1 s2 s3 s4 s false)(w:kh E l lo t1 t2 t3 t4 t r)(G:List Xz):
  ∃p,Xc E K 0 [0,1,2,3,9,10,37,38] x18_1 (k+1) ⟨AI P Q L lo is ls.length i,Sg u1 u2 u3 u4 m::G⟩=Xc E K 0 [0,1,2,3,9,10,37,38] x18_1 k ⟨AI P Q L lo is ls.length (i+1),Sg u1 u2 u3 u4 m::p⟩:=by
 obtain⟨A,e⟩:=v;obtain⟨B,f⟩:=w;have b:i<ls.length:=(Zd.mp o).1;have y:=fun(a:HF) (g:IntKind)=>D.idx (h:=a) (k:=g) (sz:=1) (XI x) rfl
 have z:=fun(a:HF) (g:IntKind)=>C.idx (h:=a) (k:=g) (sz:=1) (XI o) rfl
 have u:Xe .i64 (.ofNat (i+1))=.ofNat (i+1):=wrap_i64 (by omega);have j:∀m:List Nat,m.length=8->(Xm m).take 8=Xm m:=fun m c=>Zb (by rw[Xa];omega)
 have n:∀m:List Nat,m.length=8->(Xm m).drop 8=[]:=fun m c=>Zj (by rw[Xa];omega)
 have F:=j _ e;have H:=j _ f;have I:=j _ c;have J:=n _ e;have M:=n _ f;have w1:=Xo s;have O:=Xo t;apply Exists.intro;rw[Xc];simp(decide:=true)only[Xp,Xq,WR,Sg,reduceIte,Nat.reduceAdd,x18_1,d,XW,b,y,z,A,B,u,e,f,XS,Xa,Zl,Zq,Vh,Wa,V6,Wf,Zs];rfl
theorem yl (d:E.mode=md)(C:Sl Q (Xu qs))(B:Sl L (Xu ls))(w:qs[i]? =some q)(o:ls[i]? =some l)(M:ls.length<1000000)(c:m.length=8)(is:Bool)(u:kh E q lo s1 s2 s3 s4 s true)(v:kh E l lo t1 t2 t3 t4 t false)(G:List Xz):
  ∃p,Xc E K 0 [0,1,2,3,9,10,37,38] x18_1 (k+1) ⟨AI P Q L lo is ls.length i,Sg u1 u2 u3 u4 m::G⟩=Xc E K 0 [0,1,2,3,9,10,37,38] x18_1 k ⟨AI P Q L lo is ls.length (i+1),Sg u1 u2 u3 u4 m::p⟩:=by
 obtain⟨z,e⟩:=u;obtain⟨A,f⟩:=v;have b:i<ls.length:=(Zd.mp o).1;have x:=fun(a:HF) (g:IntKind)=>C.idx (h:=a) (k:=g) (sz:=1) (XI w) rfl
 have y:=fun(a:HF) (g:IntKind)=>B.idx (h:=a) (k:=g) (sz:=1) (XI o) rfl
 have r:Xe .i64 (.ofNat (i+1))=.ofNat (i+1):=wrap_i64 (by omega);have j:∀m:List Nat,m.length=8->(Xm m).take 8=Xm m:=fun m c=>Zb (by rw[Xa];omega)
 have n:∀m:List Nat,m.length=8->(Xm m).drop 8=[]:=fun m c=>Zj (by rw[Xa];omega)
 have D:=j _ e;have F:=j _ f;have H:=j _ c;have I:=n _ e;have J:=n _ f;have w1:=Xo s;have N:=Xo t;apply Exists.intro;rw[Xc];simp(decide:=true)only[Xp,Xq,WR,Sg,reduceIte,Nat.reduceAdd,x18_1,d,XW,b,x,y,z,A,r,e,f,XS,Xa,Zl,Zq,Vh,Wa,V6,Wf,Zs];rfl
theorem E1 (f:E.mode=md)(S:Sl Q (Xu qs))(R:Sl L (Xu ls))(H:qs[i]? =some q)(p:ls[i]? =some l)(W:ls.length<1000000)(a:m.length=8)(B:kh E q lo s1 s2 s3 s4 s true)(C:kh E l lo t1 t2 t3 t4 t true){x:List Nat}(n:x.length=8)(D:E.pure 59 [.agg (mo s),.agg (mo t)]=some (.XY [.agg (mo x),.one (.int .i64 (.ofNat 0))])){z:Int}(F:E.pure 60 [.one lo,.agg (mo x),.agg (mo m)]=some (.one (.int .i64 z)))(I:T5 (.ofNat 0) z=false)(G:List Xz):
  ∃r,Xc E K 0 [0,1,2,3,9,10,37,38] x18_1 (k+1) ⟨AI P Q L lo true ls.length i,Sg u1 u2 u3 u4 m::G⟩=Xc E K 0 [0,1,2,3,9,10,37,38] x18_1 k ⟨AI P Q L lo true ls.length (i+1),Sg u1 u2 u3 u4 m::r⟩:=by
 obtain⟨N,g⟩:=B;obtain⟨O,j⟩:=C;have e:i<ls.length:=(Zd.mp p).1;have J:=fun(d:HF) (o:IntKind)=>S.idx (h:=d) (k:=o) (sz:=1) (XI H) rfl
 have M:=fun(d:HF) (o:IntKind)=>R.idx (h:=d) (k:=o) (sz:=1) (XI p) rfl
 have A:Xe .i64 (.ofNat (i+1))=.ofNat (i+1):=wrap_i64 (by omega);have b:∀m:List Nat,m.length=8->(Xm m).take 8=Xm m:=fun m a=>Zb (by rw[Xa];omega)
 have c:∀m:List Nat,m.length=8->(Xm m).drop 8=[]:=fun m a=>Zj (by rw[Xa];omega)
 have u:=b _ g;have v:=b _ j;have w:=b _ a;have U:=c _ g;have V:=c _ j;have w1:=Xo s;have X:=Xo t;have y:=b _ n;have c3:=c _ n;have T:=Xo x;apply Exists.intro;rw[Xc];simp(decide:=true)only[Xp,Xq,WR,Sg,reduceIte,Nat.reduceAdd,x18_1,f,XW,e,J,M,N,O,A,u,v,w,g,j,a,XS,Xa,XK,XN,Zl,Zq,Vh,Wa,V6,Wf,Zs,D,F,I,y,T,n];rfl
theorem EZ (f:E.mode=md)(M:Sl Q (Xu qs))(J:Sl L (Xu ls))(C:qs[i]? =some q)(u:ls[i]? =some l)(V:ls.length<1000000)(e:m.length=8)(z:kh E q lo s1 s2 s3 s4 s true)(A:kh E l lo t1 t2 t3 t4 t true){x:List Nat}(n:x.length=8)(B:E.pure 59 [.agg (mo s),.agg (mo t)]=some (.XY [.agg (mo x),.one (.int .i64 (.ofNat 0))]))(G:List Xz):
  ∃r v,Xc E K 0 [0,1,2,3,9,10,37,38] x18_1 (k+1) ⟨AI P Q L lo false ls.length i,Sg u1 u2 u3 u4 m::G⟩=some (.ret,⟨r,v⟩)/\Xh r 8=some (.one (.p (.bool false))):=by
 obtain⟨H,g⟩:=z;obtain⟨I,j⟩:=A;have d:i<ls.length:=(Zd.mp u).1;have D:=fun(c:HF) (o:IntKind)=>M.idx (h:=c) (k:=o) (sz:=1) (XI C) rfl
 have F:=fun(c:HF) (o:IntKind)=>J.idx (h:=c) (k:=o) (sz:=1) (XI u) rfl
 have U:Xe .i64 (.ofNat (i+1))=.ofNat (i+1):=wrap_i64 (by omega);have a:∀m:List Nat,m.length=8->(Xm m).take 8=Xm m:=fun m e=>Zb (by rw[Xa];omega)
 have b:∀m:List Nat,m.length=8->(Xm m).drop 8=[]:=fun m e=>Zj (by rw[Xa];omega)
 have w:=a _ g;have y:=a _ j;have O:=a _ e;have S:=b _ g;have T:=b _ j;have w1:=Xo s;have W:=Xo t;have R:=a _ n;have c3:=b _ n;have N:=Xo x;apply tN
 ·rw[Xc];simp(decide:=true)only[Xp,Xq,WR,Sg,reduceIte,Nat.reduceAdd,x18_1,f,XW,d,D,F,H,I,w,y,g,j,XS,Xa,XK,XN,Zl,Zq,Vh,Wa,V6,Wf,Zs,B,N,n];rfl
 ·simp only[Xp,reduceIte,Nat.reduceEqDiff]
theorem E2 (f:E.mode=md)(R:Sl Q (Xu qs))(O:Sl L (Xu ls))(H:qs[i]? =some q)(u:ls[i]? =some l)(W:ls.length<1000000)(a:m.length=8)(B:kh E q lo s1 s2 s3 s4 s true)(C:kh E l lo t1 t2 t3 t4 t true){x:List Nat}(n:x.length=8)(D:E.pure 59 [.agg (mo s),.agg (mo t)]=some (.XY [.agg (mo x),.one (.int .i64 (.ofNat 0))]))(F:E.pure 60 [.one lo,.agg (mo x),.agg (mo m)]=some (.one (.int .i64 (.ofNat 1))))(G:List Xz):
  ∃r v,Xc E K 0 [0,1,2,3,9,10,37,38] x18_1 (k+1) ⟨AI P Q L lo true ls.length i,Sg u1 u2 u3 u4 m::G⟩=some (.ret,⟨r,v⟩)/\Xh r 8=some (.one (.p (.bool false))):=by
 obtain⟨M,g⟩:=B;obtain⟨N,j⟩:=C;have e:i<ls.length:=(Zd.mp u).1;have I:=fun(d:HF) (o:IntKind)=>R.idx (h:=d) (k:=o) (sz:=1) (XI H) rfl
 have J:=fun(d:HF) (o:IntKind)=>O.idx (h:=d) (k:=o) (sz:=1) (XI u) rfl
 have V:Xe .i64 (.ofNat (i+1))=.ofNat (i+1):=wrap_i64 (by omega);have b:∀m:List Nat,m.length=8->(Xm m).take 8=Xm m:=fun m a=>Zb (by rw[Xa];omega)
 have c:∀m:List Nat,m.length=8->(Xm m).drop 8=[]:=fun m a=>Zj (by rw[Xa];omega)
 have w:=b _ g;have y:=b _ j;have z:=b _ a;have T:=c _ g;have U:=c _ j;have w1:=Xo s;have X:=Xo t;have A:=b _ n;have c3:=c _ n;have S:=Xo x;apply tN
 ·rw[Xc];simp(decide:=true)only[Xp,Xq,WR,Sg,reduceIte,Nat.reduceAdd,x18_1,f,XW,e,I,J,M,N,w,y,z,g,j,a,XS,Xa,XK,XN,Zl,Zq,Vh,Wa,V6,Wf,Zs,D,F,A,S,n];rfl
 ·simp only[Xp,reduceIte,Nat.reduceEqDiff]
end
end Go.Proofs.YtefpgecinlekpaaGreat
namespace Go.Proofs.YtefpgecinlekpaaGreat
open Go.Ev Go.Num
inductive wO (E:Xb)(lo:PL)(m:List Nat)(is:Bool):List PL->List PL->Bool->Prop
 |nil:wO E lo m is [] [] true
 |xp {q l s1 s2 s3 s4 t1 t2 t3 t4:PL} {s t:List Nat} {b2:Bool} {qs ls:List PL} {b:Bool} (h1:kh E q lo s1 s2 s3 s4 s false) (h2:kh E l lo t1 t2 t3 t4 t b2) (h:wO E lo m is qs ls b):wO E lo m is (q::qs) (l::ls) b
 |CG {q l s1 s2 s3 s4 t1 t2 t3 t4:PL} {s t:List Nat} {qs ls:List PL} {b:Bool} (h1:kh E q lo s1 s2 s3 s4 s true) (h2:kh E l lo t1 t2 t3 t4 t false) (h:wO E lo m is qs ls b):wO E lo m is (q::qs) (l::ls) b
 |le {q l s1 s2 s3 s4 t1 t2 t3 t4:PL} {s t x:List Nat} {z:Int} {qs ls:List PL} {b:Bool} (h1:kh E q lo s1 s2 s3 s4 s true) (h2:kh E l lo t1 t2 t3 t4 t true) (hx:x.length=8) (h3:E.pure 59 [.agg (mo s),.agg (mo t)]=some (.XY [.agg (mo x),.one (.int .i64 (.ofNat 0))]))
   (hi:is=true) (h4:E.pure 60 [.one lo,.agg (mo x),.agg (mo m)]=some (.one (.int .i64 z))) (hz:T5 (.ofNat 0) z=false) (h:wO E lo m is qs ls b):wO E lo m is (q::qs) (l::ls) b
 |no {q l s1 s2 s3 s4 t1 t2 t3 t4:PL} {s t x:List Nat} {qs ls:List PL} (h1:kh E q lo s1 s2 s3 s4 s true) (h2:kh E l lo t1 t2 t3 t4 t true) (hx:x.length=8) (h3:E.pure 59 [.agg (mo s),.agg (mo t)]=some (.XY [.agg (mo x),.one (.int .i64 (.ofNat 0))])) (hi:is=false):wO E lo m is (q::qs) (l::ls) false
 |gt {q l s1 s2 s3 s4 t1 t2 t3 t4:PL} {s t x:List Nat} {qs ls:List PL} (h1:kh E q lo s1 s2 s3 s4 s true) (h2:kh E l lo t1 t2 t3 t4 t true) (hx:x.length=8) (h3:E.pure 59 [.agg (mo s),.agg (mo t)]=some (.XY [.agg (mo x),.one (.int .i64 (.ofNat 0))]))
   (hi:is=true) (h4:E.pure 60 [.one lo,.agg (mo x),.agg (mo m)]=some (.one (.int .i64 (.ofNat 1)))):wO E lo m is (q::qs) (l::ls) false
abbrev GK (P Q L lo:PL)(b:Bool)(ex:Ex)(T':List (Nat×DV)):Prop:=(b=true/\ex=.exit 0/\Xh T' 0=some (.one (.p P))/\Xh T' 1=some (.one (.p Q))/\Xh T' 2=some (.one (.p L)))\/(b=false/\ex=.ret/\Xh T' 8=some (.one (.p (.bool false))))
theorem E3 {E:Xb}{K:Nat}(c:E.mode=md){P Q L lo u1 u2 u3 u4:PL}{m:List Nat}{J w:List PL}(D:Sl Q (Xu J))(C:Sl L (Xu w))(y:w.length<1000000)(z:m.length=8){is:Bool}{qs ls:List PL}{b:Bool}(h:wO E lo m is qs ls b):∀(i k:Nat) (G:List Xz),J.drop i=qs->w.drop i=ls->i+ls.length=w.length->ls.length<k->
  ∃M t v,Xc E K 0 [0,1,2,3,9,10,37,38] x18_1 k ⟨AI P Q L lo is w.length i,Sg u1 u2 u3 u4 m::G⟩=some (M,⟨t,v⟩)/\GK P Q L lo b M t:=by
 induction h with
 |nil=>
  intro i k G _ _ f q;obtain⟨k,rfl⟩:∃d,k=d+1:=⟨k-1,by omega⟩;simp only[Zu,Z3]at f;subst f;refine⟨.exit 0,?_⟩;apply tN
  ·rw[Xc];simp only[Xp,Xq,reduceIte,Nat.reduceEqDiff,x18_1,Zv];rfl
  ·exact .inl ⟨rfl,rfl,by simp only[Xp,reduceIte,Nat.reduceEqDiff,and_self]⟩
 |xp l n h B=>
  intro i k G p o f q;obtain⟨k,rfl⟩:∃d,k=d+1:=⟨k-1,by omega⟩;simp only[Zi]at f q;obtain⟨g,r⟩:=Xf p;obtain⟨j,s⟩:=Xf o;obtain⟨u,e⟩:=ym (K:=K) (k:=k) (P:=P) (u1:=u1) (u2:=u2) (u3:=u3) (u4:=u4) c D C g j y z is l n G;rw[e];exact B (i+1) k u r s (by omega) (by omega)
 |CG l n h B=>
  intro i k G p o f q;obtain⟨k,rfl⟩:∃d,k=d+1:=⟨k-1,by omega⟩;simp only[Zi]at f q;obtain⟨g,r⟩:=Xf p;obtain⟨j,s⟩:=Xf o;obtain⟨u,e⟩:=yl (K:=K) (k:=k) (P:=P) (u1:=u1) (u2:=u2) (u3:=u3) (u4:=u4) c D C g j y z is l n G;rw[e];exact B (i+1) k u r s (by omega) (by omega)
 |le l n A x a I N h B=>
  intro i k G p o f q;obtain⟨k,rfl⟩:∃d,k=d+1:=⟨k-1,by omega⟩;subst a;simp only[Zi]at f q;obtain⟨g,r⟩:=Xf p;obtain⟨j,s⟩:=Xf o;obtain⟨u,e⟩:=E1 (K:=K) (k:=k) (P:=P) (u1:=u1) (u2:=u2) (u3:=u3) (u4:=u4) c D C g j y z l n A x I N G;rw[e];exact B (i+1) k u r s (by omega) (by omega)
 |no l n A x a=>
  intro i k G p o f q;obtain⟨k,rfl⟩:∃d,k=d+1:=⟨k-1,by omega⟩;subst a;obtain⟨g,r⟩:=Xf p;obtain⟨j,s⟩:=Xf o;obtain⟨t,v,F,H⟩:=EZ (K:=K) (k:=k) (P:=P) (u1:=u1) (u2:=u2) (u3:=u3) (u4:=u4) c D C g j y z l n A x G;exact⟨.ret,t,v,F,.inr ⟨rfl,rfl,H⟩⟩
 |gt l n A x a I=>
  intro i k G p o f q;obtain⟨k,rfl⟩:∃d,k=d+1:=⟨k-1,by omega⟩;subst a;obtain⟨g,r⟩:=Xf p;obtain⟨j,s⟩:=Xf o;obtain⟨t,v,F,H⟩:=E2 (K:=K) (k:=k) (P:=P) (u1:=u1) (u2:=u2) (u3:=u3) (u4:=u4) c D C g j y z l n A x I G;exact⟨.ret,t,v,F,.inr ⟨rfl,rfl,H⟩⟩
theorem Nb {B:Xr}(i:Std B){P Q L lo u1 u2 u3 u4 j:PL}{m:List Nat}{is:Bool}{qs ls:List PL}(l:Sl Q (Xu qs))(k:Sl L (Xu ls))(s:qs.length=ls.length)(t:ls.length<1000000)(v:Xs B 57 [.one lo] (.one (.bool true)))(u:Xs B 16 [.one Q,.one L] (.XY [.one j,.one (.int .i64 (.ofNat 0))]))(e:Xs B 61 [.one j,.one P] (.one (.bool true)))
  (d:m.length=8) (r:Xs B 58 [.one P,.one lo] (.XY [.agg (u1::u2::u3::u4::mo m),.one (.bool is)])) {b:Bool} (h:X0 B fun E _=>wO E lo m is qs ls b):Xs B 18 [.one P,.one Q,.one L,.one lo] (.one (.bool b)):=by
 refine Xs.of (i.X6 _ _ rfl) ((h.and (v.Xi.and (u.Xi.and (e.Xi.and (r.Xi.and (i.Xi.and (X0.ge (ls.length+1)))))))).mono fun E K ⟨n,ev,p,o,e1,a,F⟩=> ?_);obtain⟨D,A,z,c,q⟩:=E3 (K:=K) (P:=P) (u1:=u1) (u2:=u2) (u3:=u3) (u4:=u4) a l k t d n 0 K [] rfl rfl (by omega) (by omega);have G:(Xm m).take 8=Xm m:=Zb (by rw[Xa];omega);have C:(Xm m).drop 8=[]:=Zj (by rw[Xa];omega);have w:=Xo m;have f:=l.len;have g:=k.len;rw[XH,s]at f;rw[XH]at g;simp only[AI,Sg]at c;rcases q with⟨rfl,rfl,x,t1,t2⟩|⟨rfl,rfl,y⟩
 ·simp(decide:=true)only[Xp,Xq,WR,reduceIte,Nat.reduceAdd,x18,a,XW,ev,p,o,e1,f,g,c,x,t1,t2,d,XS,Xa]
 ·simp(decide:=true)only[Xp,Xq,WR,reduceIte,Nat.reduceAdd,x18,a,XW,ev,e1,f,g,c,y,d,XS,Xa]
end Go.Proofs.YtefpgecinlekpaaGreat
