/- Polynomials out of raw numbers: one term. -/
import Derived.Test.YtefpgecinlekpaaGreatGrB
set_option maxHeartbeats 16000000
set_option maxRecDepth 100000
namespace Go.Proofs.YtefpgecinlekpaaGreat
open Go.Ev Go.Num
theorem NO {z:Int}(a: -9223372036854775808<=z)(b:z<9223372036854775808):Xe .i64 z=z:=by
 rw[SK];simp[IntKind.wrap,IntKind.bits,IntKind.signed];omega
theorem lT {B:Xr}(d:Std B){a:Int}(h: -128<=a)(i:a<=127):Xs B 71 [.one (.int .i8 a)] (.one (.int .i64 (.ofNat a.natAbs))):=by
 refine Xs.of (d.X6 _ _ rfl) (d.Xi.mono fun E K g=> ?_);cases a with
 |ofNat n=>
  have b:Xe .i64 (.ofNat n)=.ofNat n:=NO (by omega) (by omega);have c:¬n<0:=by omega
  simp only[Xp,Xq,reduceIte,Nat.reduceEqDiff,Nat.reduceLeDiff,x71,b,c,Int.natAbs]
 |negSucc n=>
  have b:Xe .i64 (.negSucc n)=.negSucc n:=NO (by omega) (by omega);have e:(0:Int)-Int.negSucc n=.ofNat (n+1):=by simp only[ZA];omega
  have c:Xe .i64 (.ofNat (n+1))=.ofNat (n+1):=NO (by simp only[ZA];omega) (by simp only[ZA];omega);have f:fv .neg [.one (.p (.int .i64 (.negSucc n)))]=some ⟨.one (.p (.int .i64 (.ofNat (n+1)))),[],[],[]⟩:=by
   show some (W5.pure (.one (.p (.int .i64 (Xe .i64 (0-.negSucc n))))))=_;rw[e,c];rfl
  simp only[Xp,Xq,reduceIte,Nat.reduceEqDiff,Nat.reduceLeDiff,x71,b,f,Int.natAbs]
def e1 (d:Nat)(a:Int):Nat:=a.natAbs%(d+1)
def e2 (d:Nat)(a b:Int):Nat:=b.natAbs%(d-e1 d a+1)
def e3 (d:Nat)(a b c:Int):Nat:=c.natAbs%(d-e1 d a-e2 d a b+1)
def me (d:Nat)(a b c:Int):List Nat:=[e1 d a,e2 d a b,e3 d a b c,0,0,0,0,0]
theorem CX (d:Nat)(a:Int):e1 d a<=d:=by unfold e1;have:=ZS a.natAbs (show 0<d+1 by omega);omega
theorem Fl (d:Nat)(a b:Int):e2 d a b<=d:=by unfold e2;have:=ZS b.natAbs (show 0<d-e1 d a+1 by omega);omega
theorem zO (d:Nat)(a b:Int):e2 d a b<=d-e1 d a:=by unfold e2;have:=ZS b.natAbs (show 0<d-e1 d a+1 by omega);omega
theorem CW (d:Nat)(a b c:Int):e3 d a b c<=d-e1 d a-e2 d a b:=by unfold e3;have:=ZS c.natAbs (show 0<d-e1 d a-e2 d a b+1 by omega);omega
def nr (a0 a1 a2 a3 a4:Int):List PL:=[.int .i8 a0,.int .i8 a1,.int .i8 a2,.int .i8 a3,.int .i8 a4]
abbrev FP (m:List Nat):Xz:=⟨false,0,8,[Xm m],false,51⟩
theorem oF {E:Xb}{K:Nat}(j:E.mode=md){R:PL}{g:List (List PL)}(D:Sl R g){d tm i:Nat}{r a b e s:Int}(m:g[i]? =some (nr r a b e s))(S:d<100)
  (A:E.pure 71 [.one (.int .i8 a)]=some (.one (.int .i64 (.ofNat a.natAbs)))) (B:E.pure 71 [.one (.int .i8 b)]=some (.one (.int .i64 (.ofNat b.natAbs)))) (C:E.pure 71 [.one (.int .i8 e)]=some (.one (.int .i64 (.ofNat e.natAbs)))) {o:DV} (k:Nat) (G:List Xz) (t:Nat):
  ∃f,Xc E K 0 [1,2,3,4,9,10,11,12,13] x26_1 (k+4) ⟨[(1,.one (.p (.int .i64 (.ofNat 3)))),(2,.one (.p (.int .i64 (.ofNat d)))),(3,.one (.p (.int .i64 (.ofNat tm)))),(4,.one (.ptr 0 0 0 0)),(9,o),(10,.one (.p (.int .i64 (.ofNat i)))),(11,.one (.ptr (G.length+1) 0 0 0)),(12,.one (.p (.int .i64 (.ofNat d)))),(13,.one (.p (.int .i64 (.ofNat 0))))],⟨false,0,1,[[.p R]],false,t⟩::(G++[FP zM])⟩=
   some (.exit 2,⟨f,⟨false,0,1,[[.p R]],false,t⟩::(G++[FP (me d a b e)])⟩)/\Xh f 1=some (.one (.p (.int .i64 (.ofNat 3))))/\Xh f 2=some (.one (.p (.int .i64 (.ofNat d))))/\Xh f 3=some (.one (.p (.int .i64 (.ofNat tm))))/\Xh f 4=some (.one (.ptr 0 0 0 0))/\Xh f 9=some o/\Xh f 10=some (.one (.p (.int .i64 (.ofNat i))))/\Xh f 11=some (.one (.ptr (G.length+1) 0 0 0)):=by
 have l:=fun(n:HF) (q:IntKind)=>D.idx (h:=n) (k:=q) (sz:=5) m rfl
 have c:∀(n:HF) (q:IntKind),VA 5 n [.one (.p R),.one (.p (.int q (.ofNat i)))]=some ⟨.one (.p (.ref [.int .i8 r,.int .i8 a,.int .i8 b,.int .i8 e,.int .i8 s])),[],[],[]⟩:=l;have F:=CX d a;have T:=Fl d a b;have N:Xe .i64 (.ofNat 1)=.ofNat 1:=rfl;have O:Xe .i64 (.ofNat 2)=.ofNat 2:=rfl;have u:Xe .i64 (.ofNat (d+1))=.ofNat (d+1):=wrap_i64 (by omega);have Q:Xe .i64 (.ofNat (e1 d a))=.ofNat (e1 d a):=wrap_i64 (by omega);have v:Xe .i64 (Int.ofNat d-Int.ofNat (e1 d a))=.ofNat (d-e1 d a):=Wh F (by omega);have w:Xe .i64 (.ofNat (d-e1 d a+1))=.ofNat (d-e1 d a+1):=wrap_i64 (by omega);have x:Xe .i64 (Int.ofNat (d-e1 d a)-Int.ofNat (e2 d a b))=.ofNat (d-e1 d a-e2 d a b):=by
  refine Wh ?_ (by omega);unfold e2;have:=ZS b.natAbs (show 0<d-e1 d a+1 by omega);omega
 have I:=CW d a b e;have H:=zO d a b;have P:Xe .i64 (.ofNat 3)=.ofNat 3:=rfl;have y:Xe .i64 (.ofNat (d-e1 d a-e2 d a b+1))=.ofNat (d-e1 d a-e2 d a b+1):=wrap_i64 (by omega);have z:Xe .i64 (Int.ofNat (d-e1 d a-e2 d a b)-Int.ofNat (e3 d a b e))=.ofNat (d-e1 d a-e2 d a b-e3 d a b e):=Wh I (by omega);have M:e.natAbs%(d-e1 d a-e2 d a b+1)=e3 d a b e:=rfl;have J:a.natAbs%(d+1)=e1 d a:=rfl;have L:b.natAbs%(d-e1 d a+1)=e2 d a b:=rfl;apply VM
 ·rw[Xc];simp only[Xp,hS,Xq,VN,reduceIte,Nat.reduceEqDiff,Nat.reduceLeDiff,Nat.reduceLT,Nat.reduceAdd,x26_1,c,j,XW,A,N,u,v,J,zM,Xm,Yf,Zs];rw[Xc];simp only[Xp,hS,Xq,VN,reduceIte,Nat.reduceEqDiff,Nat.reduceLeDiff,Nat.reduceLT,Nat.reduceAdd,c,j,XW,B,O,w,x,L,Yf,Zs];rw[Xc];simp only[Xp,hS,Xq,VN,reduceIte,Nat.reduceEqDiff,Nat.reduceLeDiff,Nat.reduceLT,Nat.reduceAdd,c,j,XW,C,P,y,z,M,Yf,Zs];rw[Xc];simp only[Xp,Xq,VN,reduceIte,Nat.reduceEqDiff,Nat.reduceLT];rfl
 ·simp only[Xp,reduceIte,Nat.reduceEqDiff,and_self]
def N5 (a0:Int):Int:=Int.tmod a0 4
theorem kE (a:Int):(N5 a).natAbs<=3:=by
 unfold N5;have:=Int.tmod_lt_of_pos a (show(0:Int)<4 by decide);have:=Int.lt_tmod_of_pos a (show(0:Int)<4 by decide);omega
inductive km (E:Xb)(d:Nat):List (List PL)->PL->PL->Prop
 |nil {r:PL}:km E d [] r r
 |cons {a0 a1 a2 a3 a4:Int} {c1 c2 c3 c4 q1 q2 q3 q4 s r rf:PL} {r2:List (List PL)} {rows:List (List PL)} (h1:E.pure 71 [.one (.int .i8 a1)]=some (.one (.int .i64 (.ofNat a1.natAbs)))) (h2:E.pure 71 [.one (.int .i8 a2)]=some (.one (.int .i64 (.ofNat a2.natAbs)))) (h2b:E.pure 71 [.one (.int .i8 a3)]=some (.one (.int .i64 (.ofNat a3.natAbs))))
   (h3:E.pure 37 [.one (.int .i64 (N5 a0))]=some (.agg [c1,c2,c3,c4])) (h4:E.pure 37 [.one (.int .i64 (.ofNat 1))]=some (.agg [q1,q2,q3,q4]))
   (h5:E.pure 36 [.agg [c1,c2,c3,c4],.one (.Xv [q1::q2::q3::q4::mo (me d a1 a2 a3)])]=some (.one s)) (h6:E.pure 28 [.one r,.one s]=some (.one (.Xv r2))) (h:km E d rows (.Xv r2) rf):
   km E d (nr a0 a1 a2 a3 a4::rows) r rf
theorem Bp (a:Int):U9 .i8 a (.ofNat 4)=some (.p (.int .i8 (N5 a))):=rfl
theorem th {E:Xb}{K:Nat}(n:E.mode=md){R:PL}{a:List (List PL)}(q:Sl R a){d tm:Nat}(hd:d<100)(a7:tm<1000)(hK:4<=K)(t:Nat):∀(rest:List (List PL)) (r A:PL),km E d rest r A->
  ∀(i k:Nat) (G:List Xz),(a.take tm).drop i=rest->i+rest.length=(a.take tm).length->rest.length<k->
  ∃N G',Xc E K 0 [1,2,3,4,9,10] x26_2 k ⟨[(1,.one (.p (.int .i64 (.ofNat 3)))),(2,.one (.p (.int .i64 (.ofNat d)))),(3,.one (.p (.int .i64 (.ofNat tm)))),(4,.one (.ptr 0 0 0 0)),(9,.one (.p r)),(10,.one (.p (.int .i64 (.ofNat i))))],⟨false,0,1,[[.p R]],false,t⟩::G⟩=
   some (.exit 0,⟨N,⟨false,0,1,[[.p R]],false,t⟩::G'⟩)/\Xh N 9=some (.one (.p A)):=by
 intro rest r A h;induction h with
 |@nil r=>
  intro i k G _ I X;obtain⟨k,rfl⟩:∃J,k=J+1:=⟨k-1,by omega⟩;simp only[Zu,Z3,ZQ]at I;by_cases c:i<a.length
  ·have B:¬i<tm:=by omega
   apply tN
   ·rw[Xc];simp only[Xp,Xq,Zs,reduceIte,Nat.reduceEqDiff,x26_2,q.len,c,B];rfl
   ·simp only[Xp,reduceIte,Nat.reduceEqDiff]
  ·skip
   apply tN
   ·rw[Xc];simp only[Xp,Xq,Zs,reduceIte,Nat.reduceEqDiff,x26_2,q.len,c];rfl
   ·simp only[Xp,reduceIte,Nat.reduceEqDiff]
 |@cons v g j l O c1 c2 c3 c4 q1 q2 q3 q4 s r A r2 a5 h1 B C U V D W h ih=>
  intro i k G F I X;obtain⟨k,rfl⟩:∃J,k=J+1:=⟨k-1,by omega⟩;simp only[Zi,ZQ]at I X;have c:i<a.length:=by omega
  have e:i<tm:=by omega
  obtain⟨T,P⟩:=Xf F;have f:a[i]? =some (nr v g j l O):=by rw[Yc,if_pos e]at T;exact T
  have w:=fun(H:HF) (L:IntKind)=>q.idx (h:=H) (k:=L) (sz:=5) f rfl
  have b:∀(H:HF) (L:IntKind),VA 5 H [.one (.p R),.one (.p (.int L (.ofNat i)))]=some ⟨.one (.p (.ref [.int .i8 v,.int .i8 g,.int .i8 j,.int .i8 l,.int .i8 O])),[],[],[]⟩:=w;obtain⟨z,rfl⟩:∃z,K=z+4:=⟨K-4,by omega⟩;obtain⟨T1,u,Y,Z,i4,i5,i6,i7,i8⟩:=oF (K:=z+4) (d:=d) (tm:=tm) n q f hd h1 B C (o:=.one (.p r)) z G t;have Q:Xe .i64 (.ofNat (i+1))=.ofNat (i+1):=wrap_i64 (by omega);have S:Xe .i64 (N5 v)=N5 v:=by have:=kE v;exact NO (by omega) (by omega)
  have m:(me d g j l).length=8:=rfl;have M:(Xm (me d g j l)).take 8=Xm (me d g j l):=rfl;have d1:(Xm (me d g j l)).drop 8=[]:=rfl;generalize a6:me d g j l=mm at u D m M d1;simp only[FP,zM,Xm,Zw,ZT]at u;have u:_=some (Ex.exit 2,(⟨T1,⟨false,0,1,[[.p R]],false,t⟩::(G++[⟨false,0,8,[Xm mm],false,51⟩])⟩:St)):=u;have y:PL.scalar (.Xv r2)=false:=rfl;cases x:s.scalar with
  |true=>
   rw[Xc];simp only[Xp,WR,hS,Xq,VN,reduceIte,Nat.reduceEqDiff,Nat.reduceLeDiff,Nat.reduceLT,Nat.reduceAdd,x26_2,q.len,c,e,b,n,XW,u,Y,Z,i4,i5,i6,i7,i8,Yf,Zs,Bp,Q,S,U,V,D,W,m,M,Xa,XK,XN,x,y,Zq,ite_self];exact ih (i+1) k _ P (by rw[ZQ];omega) (by omega)
  |false=>
   rw[Xc];simp only[Xp,WR,hS,Xq,VN,reduceIte,Nat.reduceEqDiff,Nat.reduceLeDiff,Nat.reduceLT,Nat.reduceAdd,x26_2,q.len,c,e,b,n,XW,u,Y,Z,i4,i5,i6,i7,i8,Yf,Zs,Bp,Q,S,U,V,D,W,m,M,Xa,XK,XN,x,y,Zq,ite_self];exact ih (i+1) k _ P (by rw[ZQ];omega) (by omega)
theorem qT {E:Xb}{K:Nat}(e:E.mode=md){R:PL}{a:List (List PL)}(q:Sl R a){d tm:Nat}(F:d<100)(z:tm<1000)(W:4<=K)(t:Nat){rest:List (List PL)}{rf:PL}(h:km E d rest (.Xv []) rf)(I:rest≠[])(u:a.take tm=rest)(hk:rest.length<K):
  ∃N G',Xc E K 0 [1,2,3,4,9,10] x26_2 K ⟨[(1,.one (.p (.int .i64 (.ofNat 3)))),(2,.one (.p (.int .i64 (.ofNat d)))),(3,.one (.p (.int .i64 (.ofNat tm)))),(4,.one (.ptr 0 0 0 0)),(9,.one (.own 1 0 0 0)),(10,.one (.p (.int .i64 (.ofNat 0))))],[⟨false,0,1,[[.p R]],false,t⟩,⟨false,0,12,[],false,63⟩]⟩=
   some (.exit 0,⟨N,⟨false,0,1,[[.p R]],false,t⟩::G'⟩)/\Xh N 9=some (.one (.p rf)):=by
 cases h with
 |nil=>exact absurd rfl I
 |@cons n g i j B c1 c2 c3 c4 q1 q2 q3 q4 s _ _ r2 f h1 h2 C T U D V h=>
 obtain⟨k,rfl⟩:∃k',K=k'+4:=⟨K-4,by omega⟩;have H:=congrArg List.length u;simp only[Zi,ZQ]at H hk;have x:0<a.length:=by omega
 have c:0<tm:=by omega
 have v:(a.take tm).drop 0=nr n g i j B::f:=by rw[Ye];exact u
 obtain⟨S,O⟩:=Xf v;have l:a[0]? =some (nr n g i j B):=by rw[Yc,if_pos c]at S;exact S
 have w:=fun(G:HF) (L:IntKind)=>q.idx (h:=G) (k:=L) (sz:=5) l rfl
 have b:∀(G:HF) (L:IntKind),VA 5 G [.one (.p R),.one (.p (.int L (.ofNat 0)))]=some ⟨.one (.p (.ref [.int .i8 n,.int .i8 g,.int .i8 i,.int .i8 j,.int .i8 B])),[],[],[]⟩:=w;obtain⟨T1,r,X,Y,Z,i5,i6,i7,J⟩:=oF (K:=k+4) (d:=d) (tm:=tm) e q l F h1 h2 C (o:=.one (.own 1 0 0 0)) k [⟨false,0,12,[],false,63⟩] t;have P:Xe .i64 (.ofNat (0+1))=.ofNat (0+1):=rfl;have a5:Xe .i64 (.ofNat 1)=.ofNat 1:=rfl;have Q:Xe .i64 (N5 n)=N5 n:=by have:=kE n;exact NO (by omega) (by omega)
 have m:(me d g i j).length=8:=rfl;have M:(Xm (me d g i j)).take 8=Xm (me d g i j):=rfl;have d1:(Xm (me d g i j)).drop 8=[]:=rfl;generalize a6:me d g i j=mm at r D m M d1;simp only[FP,zM,Xm,Zw,ZT,Zi,Zu,Nat.reduceAdd,ZR,ZO]at r J;have r:_=some (Ex.exit 2,(⟨T1,[⟨false,0,1,[[.p R]],false,t⟩,⟨false,0,12,[],false,63⟩,⟨false,0,8,[Xm mm],false,51⟩]⟩:St)):=r;have A:PL.scalar (.Xv r2)=false:=rfl;cases y:s.scalar with
 |true=>
  rw[Xc];simp(decide:=true)only[Xp,WR,Xq,reduceIte,Nat.reduceAdd,x26_2,q.len,x,c,b,e,XW,r,X,Y,Z,i5,i6,i7,J,Yf,Bp,P,Q,T,U,D,V,m,M,Xa,XK,XN,y,A,ite_self];exact th (K:=k+4) e q F z W t f _ _ h 1 _ _ O (by rw[ZQ];omega) (by omega)
 |false=>
  rw[Xc];simp(decide:=true)only[Xp,WR,Xq,reduceIte,Nat.reduceAdd,x26_2,q.len,x,c,b,e,XW,r,X,Y,Z,i5,i6,i7,J,Yf,Bp,P,Q,T,U,D,V,m,M,Xa,XK,XN,y,A,ite_self];exact th (K:=k+4) e q F z W t f _ _ h 1 _ _ O (by rw[ZQ];omega) (by omega)
end Go.Proofs.YtefpgecinlekpaaGreat
namespace Go.Num
def pP (d:Nat)(m:List Nat):Prop:=∃a b c,m=[a,b,c,0,0,0,0,0]/\a+b+c<=d
theorem pP.l8 {d:Nat}{m:List Nat}(h:pP d m):L8 m:=by obtain⟨a,b,c,rfl,-⟩:=h;rfl
theorem pP.mono {d e:Nat}{m:List Nat}(h:pP d m)(k:d<=e):pP e m:=by obtain⟨a,b,c,rfl,f⟩:=h;exact⟨a,b,c,rfl,by omega⟩
structure U5 (d c n:Nat)(ts:List Qm):Prop where
 pl:Pl ts
 lN:∀t∈ts,pP d t.2
 cf:∀t∈ts,∃z:Int,t.1=(z:Rat)/\z.natAbs<=c
 len:ts.length<=n
theorem U5.nil (d c n:Nat):U5 d c n []:=⟨Pl.nil,(fun _ h=>by cases h),(fun _ h=>by cases h),Zs _⟩
theorem U5.mono {d c n e b f:Nat}{g:List Qm}(h:U5 d c n g)(j:d<=e)(l:c<=b)(m:n<=f):U5 e b f g:=
 ⟨h.pl,fun t a=>(h.lN t a).mono j,fun t a=>by obtain⟨z,i,k⟩:=h.cf t a;exact⟨z,i,by omega⟩,by have:=h.len;omega⟩
theorem QF:∀(n:Nat) {c d:List Qm} {x:Qm},c.length+d.length<=n->Q8 c->Q8 d->x∈Vu c d->x∈c\/x∈d\/∃t∈c,∃u∈d,t.2=x.2/\u.2=x.2/\x.1=t.1+u.1
 |_,[],d,x,_,_,_,h=>by rw[Wr]at h;exact .inr (.inl h)
 |_,t::c,[],x,_,_,_,h=>by rw[VD]at h;exact .inl h
 |0,t::c,u::d,x,hn,_,_,_=>by simp at hn
 |n+1,t::c,u::d,x,hn,h1,h2,h=>by
  simp only[Zi]at hn;rw[SA]at h;split at h
  ·rcases Zk.1 h with rfl|h
   ·exact .inl (Ze ..)
   ·rcases QF n (by simp;omega) h1.tail h2 h with h|h|⟨a,ha,b,hb,e⟩
    ·exact .inl (Zc _ h)
    ·exact .inr (.inl h)
    ·exact .inr (.inr ⟨a,Zc _ ha,b,hb,e⟩)
  ·split at h
   ·rcases Zk.1 h with rfl|h
    ·exact .inr (.inl (Ze ..))
    ·rcases QF n (by simp;omega) h1 h2.tail h with h|h|⟨a,ha,b,hb,e⟩
     ·exact .inl h
     ·exact .inr (.inl (Zc _ h))
     ·exact .inr (.inr ⟨a,ha,b,Zc _ hb,e⟩)
   ·rename_i a b;have e:Wj t.2 u.2=.ofNat 0:=by
     rcases WA t.2 u.2 with q|q|q
     ·exact absurd q a
     ·exact absurd q b
     ·exact q
    have e2:=VQ (by rw[h1.head,h2.head]) e;have f:x∈Vu c d->_:=fun h=>QF n (by omega) h1.tail h2.tail h
    have g:(x∈c\/x∈d\/∃t∈c,∃u∈d,t.2=x.2/\u.2=x.2/\x.1=t.1+u.1)->x∈t::c\/x∈u::d\/∃a∈t::c,∃b∈u::d,a.2=x.2/\b.2=x.2/\x.1=a.1+b.1:=fun h=>by
     rcases h with h|h|⟨a,ha,b,hb,e⟩
     ·exact .inl (Zc _ h)
     ·exact .inr (.inl (Zc _ h))
     ·exact .inr (.inr ⟨a,Zc _ ha,b,Zc _ hb,e⟩)
    split at h
    ·exact g (f h)
    ·rcases Zk.1 h with rfl|h
     ·exact .inr (.inr ⟨t,Ze ..,u,Ze ..,rfl,e2.symm,rfl⟩)
     ·exact g (f h)
theorem Pl.add {a b:List Qm}(h:Pl a)(k:Pl b):Pl (Vu a b):=⟨aM _ (Zh _) h.q8 k.q8 h.dc k.dc,dO h.q8 k.q8⟩
theorem U5.add {d c n j m:Nat}{g i:List Qm}(h:U5 d c n g)(k:U5 d j m i):U5 d (c+j) (n+m) (Vu g i):=by
 refine⟨h.pl.add k.pl,fun t f=> ?_,fun t f=> ?_,?_⟩
 ·rcases QF _ (Zh _) h.pl.q8 k.pl.q8 f with h1|h1|⟨a,ha,b,hb,e1,e2,e3⟩
  ·exact h.lN t h1
  ·exact k.lN t h1
  ·rw[<-e1];exact h.lN a ha
 ·rcases QF _ (Zh _) h.pl.q8 k.pl.q8 f with h1|h1|⟨a,ha,b,hb,e1,e2,e3⟩
  ·obtain⟨z,e,l⟩:=h.cf t h1;exact⟨z,e,by omega⟩
  ·obtain⟨z,e,l⟩:=k.cf t h1;exact⟨z,e,by omega⟩
  ·obtain⟨z,e,l⟩:=h.cf a ha;obtain⟨y,o,p⟩:=k.cf b hb;exact⟨z+y,by rw[e3,e,o,Rat.intCast_add],by omega⟩
 ·have:=RU _ g i (Zh _);have:=h.len;have:=k.len;omega
end Go.Num
namespace Go.Proofs.YtefpgecinlekpaaGreat
open Go.Ev Go.Num
theorem Sq.int {z:Int}(h:z.natAbs<4294967296):Sq (z:Rat):=by
 refine Sq.of (k:=1) (by omega) ?_ ?_
 ·rw[Rat.num_intCast];simpa using h
 ·rw[Rat.den_intCast];decide
theorem S9 {d c n:Nat}{a:List Qm}(h:U5 d c n a)(g:c<4294967296):Sz a:=fun t e=>by
 obtain⟨z,b,f⟩:=h.cf t e;rw[b];exact Sq.int (by omega)
theorem DF (d:Nat)(a b c:Int):pP d (me d a b c):=by
 have:=CX d a;have:=zO d a b;have:=CW d a b c;exact⟨_,_,_,rfl,by omega⟩
theorem lM {d:Nat}(g:d<=65535){m:List Nat}(h:pP d m):XL m:=by
 obtain⟨a,b,c,rfl,h⟩:=h;refine⟨rfl,fun e f=> ?_⟩;simp only[Zk,ZX,or_false]at f;rcases f with rfl|rfl|rfl|rfl|rfl|rfl|rfl|rfl<;>omega
def lY (c:List PL):Prop:=∃a0 a1 a2 a3 a4:Int,c=nr a0 a1 a2 a3 a4/\(-128<=a0/\a0<=127)/\(-128<=a1/\a1<=127)/\(-128<=a2/\a2<=127)/\(-128<=a3/\a3<=127)
def Rp (R:PL):Prop:=∃rs,Sl R rs/\∀c∈rs,lY c
theorem jw {B:Xr}(b:Std B){d:Nat}(R:d<100):∀{rows:List (List PL)},(∀c∈rows,lY c)->∀{r:PL} {a:List Qm} {c n:Nat},PQ r a->U5 d c n a->c+rows.length*3<4294967296->n+rows.length<100000->
  ∃q p,(X0 B fun E _=>km E d rows r q)/\PQ q p/\U5 d (c+rows.length*3) (n+rows.length) p
 |[],_,r,a,c,n,hr,hg,_,_=>⟨r,a,X0.of fun _ _=>.nil,hr,by simpa using hg⟩
 |row::rows,hrow,r,a,c,n,hr,hg,w,hn=>by
  obtain⟨f,i,j,k,a4,rfl,-,A,C,D⟩:=hrow row (Ze ..);have V:=kE f;simp only[Zi,ZE,Z0]at w hn⊢;have J:=lT b A.1 A.2;have L:=lT b C.1 C.2;have v:=lT b D.1 D.2;obtain⟨cz,M,m⟩:=N9 b (x:=N5 f) (by unfold mg;omega);obtain⟨co,N,l⟩:=N9 b (x:=.ofNat 1) (by unfold mg;decide);have g:=DF d i j k;have y:=lM (show d<=65535 by omega) g;obtain⟨Z,q2,q3,q4,rfl⟩:=l.len;have T:PQ (.Xv [.bool Z::q2::.bool q3::q4::mo (me d i j k)]) [(((Int.ofNat 1:Int):Rat),me d i j k)]:=⟨_,.Xv,.cons (Vd.mk l y) .nil⟩;obtain⟨s,O,U⟩:=mZ b m (Sq.int (by omega)) T (fun t e=>by
   simp only[Zk,ZX,or_false]at e;subst e;exact Sq.int (z:=1) (by decide)) (by simp)
  have h:U5 d 3 1 (if((N5 f:Int):Rat)=0 then[]else UI ((N5 f:Int):Rat) [(((Int.ofNat 1:Int):Rat),me d i j k)]):=by
   split
   ·exact U5.nil _ _ _
   ·rename_i h0;have e1:UI ((N5 f:Int):Rat) [(((Int.ofNat 1:Int):Rat),me d i j k)]=[(((N5 f:Int):Rat),me d i j k)]:=by
     simp only[UI,Zw,ZT];rw[show((Int.ofNat 1:Int):Rat)=1 from rfl,Rat.mul_one]
    rw[e1];refine⟨⟨⟨fun t e=> ?_,by simp⟩,fun t e=> ?_⟩,fun t e=> ?_,fun t e=> ?_,by simp⟩<;>(simp only[Zk,ZX,or_false]at e;subst e)
    ·exact h0
    ·exact g.l8
    ·exact g
    ·exact⟨N5 f,rfl,V⟩
  have S:=hg.len;obtain⟨o,P,Q⟩:=Sk b hr U (S9 hg (by omega)) (S9 h (by omega)) (by omega) (by have:=h.len;omega);obtain⟨q,p,W,X,Y⟩:=jw b R (fun c w=>hrow c (Zc _ w)) (r:=.Xv o) ⟨_,.Xv,Q⟩ (hg.add h) (by omega) (by omega);obtain⟨c1,c2,c3,c4,rfl⟩:=m.len;exact⟨q,p,(W.and (J.Xi.and (L.Xi.and (v.Xi.and (M.Xi.and (N.Xi.and (O.Xi.and P.Xi))))))).mono fun E K ⟨F,e1,e2,u,e3,G,H,I⟩=>.cons e1 e2 u e3 G H I F,X,Y.mono (Zh _) (by omega) (by omega)⟩
theorem nY {B:Xr}(b:Std B){R:PL}(v:Rp R){d tm:Nat}(o:d<100)(h:tm<1000):
  ∃r q,Xs B 26 [.agg [R],.one (.int .i64 (.ofNat 3)),.one (.int .i64 (.ofNat d)),.one (.int .i64 (.ofNat tm))] (.one r)/\PQ r q/\U5 d (tm*3) tm q:=by
 obtain⟨a,i,g⟩:=v;have h0:PQ (.Xv []) []:=⟨[],.Xv,.nil⟩;have p:(a.take tm).length<=tm:=by rw[ZQ];omega
 obtain⟨A,s,k,l,m⟩:=jw b o (rows:=a.take tm) (fun c w=>g c (YK w)) h0 (U5.nil d 0 0) (by omega) (by omega);by_cases f:a.take tm=[]
 ·clear k l m;refine⟨.Xv [],[],Xs.of (b.X6 _ _ rfl) ((b.Xi.and (X0.ge 1)).mono fun E K ⟨e,u⟩=> ?_),h0,U5.nil _ _ _⟩;obtain⟨j,rfl⟩:∃j,K=j+1:=⟨K-1,by omega⟩;have x:tm=0\/a.length=0:=by
   have:=congrArg List.length f;simp only[ZQ,Zu]at this;omega
  by_cases n:0<a.length
  ·have t:¬0<tm:=by omega
   simp only[Xp,Xq,reduceIte,Nat.reduceEqDiff,Nat.reduceLeDiff,Nat.reduceAdd,Zs,x26,x26_2,Xc,i.len,n,t]
  ·simp only[Xp,Xq,reduceIte,Nat.reduceEqDiff,Nat.reduceLeDiff,Nat.reduceAdd,Zs,x26,x26_2,Xc,i.len,n]
 ·refine⟨A,s,Xs.of (b.X6 _ _ rfl) ((k.and (b.Xi.and (X0.ge (a.length+tm+4)))).mono fun E K ⟨e1,e,u⟩=> ?_),l,m.mono (Zh _) (by omega) (by omega)⟩;obtain⟨D,C,y,z⟩:=qT (K:=K) e i o h (by omega) 24 e1 f rfl (by rw[ZQ];omega);simp only[Xp,Xq,reduceIte,Nat.reduceEqDiff,Nat.reduceLeDiff,Nat.reduceAdd,x26,y,z]
end Go.Proofs.YtefpgecinlekpaaGreat
