/- Polynomials out of raw numbers: one term. -/
import Derived.Test.YtidginchkjhobaaGreatGr
set_option maxHeartbeats 16000000
set_option maxRecDepth 100000
namespace Go.Proofs.YtidginchkjhobaaGreat
open Go.Ev Go.Num
theorem aQ {z:Int}(a: -9223372036854775808<=z)(b:z<9223372036854775808):Xe .i64 z=z:=by
 rw[Rk];simp[IntKind.wrap,IntKind.bits,IntKind.signed];omega
theorem xY {B:Xs}(d:Std B){a:Int}(h: -128<=a)(i:a<=127):Xu B 73 [.one (.int .i8 a)] (.one (LA a.natAbs)):=by
 refine Xu.of (d.Wa _ _ rfl) (d.Xk.mono fun E K g=> ?_);cases a with
 |ofNat n=>
  have b:Xe .i64 (.ofNat n)=.ofNat n:=aQ (by omega) (by omega);have c:¬n<0:=by omega
  simp only[Xo,Xr,reduceIte,Nat.reduceEqDiff,Nat.reduceLeDiff,x73,b,c,Int.natAbs]
 |negSucc n=>
  have b:Xe .i64 (.negSucc n)=.negSucc n:=aQ (by omega) (by omega);have e:(0:Int)-Int.negSucc n=.ofNat (n+1):=by simp only[Zz];omega
  have c:Xe .i64 (.ofNat (n+1))=.ofNat (n+1):=aQ (by simp only[Zz];omega) (by simp only[Zz];omega);have f:iQ .neg [.one (.p (.int .i64 (.negSucc n)))]=some ⟨LB (n+1),[],[],[]⟩:=by
   show some (Va.pure (.one (.p (.int .i64 (Xe .i64 (0-.negSucc n))))))=_;rw[e,c];rfl
  simp only[Xo,Xr,reduceIte,Nat.reduceEqDiff,Nat.reduceLeDiff,x73,b,f,Int.natAbs]
def e1 (d:Nat)(a:Int):Nat:=a.natAbs%(d+1)
def e2 (d:Nat)(a b:Int):Nat:=b.natAbs%(d-e1 d a+1)
def pO (d:Nat)(a b:Int):P':=[e1 d a,e2 d a b,0,0,0,0,0,0]
theorem Gt (d:Nat)(a:Int):e1 d a<=d:=by unfold e1;have:=Z1 a.natAbs (show 0<d+1 by omega);omega
theorem JN (d:Nat)(a b:Int):e2 d a b<=d:=by unfold e2;have:=Z1 b.natAbs (show 0<d-e1 d a+1 by omega);omega
def qY (a0 a1 a2 a3 a4:Int):N':=[.int .i8 a0,.int .i8 a1,.int .i8 a2,.int .i8 a3,.int .i8 a4]
abbrev Ki (m:P'):Xx:=⟨false,0,8,[Xw m],false,73⟩
theorem si {E:Xa}{K:Nat}(j:E.mode=md){R:PL}{f:I'}(A:Sl R f){d tm i:Nat}{q a b r s:Int}(l:f[i]? =some (qY q a b r s))(I:d<100)
  (y:E.pure 73 [.one (.int .i8 a)]=some (.one (LA a.natAbs))) (z:E.pure 73 [.one (.int .i8 b)]=some (.one (LA b.natAbs))) {o:DV} (k:Nat) (G:V') (t:Nat):
  ∃e,Xb E K 0 [1,2,3,4,9,10,11,12,13] x34_1 (k+3) ⟨[(1,LB 2),(2,LB d),(3,LB tm),(4,.one (.ptr 0 0 0 0)),(9,o),(10,LB i),(11,.one (.ptr (G.length+1) 0 0 0)),(12,LB d),(13,LB 0)],⟨false,0,1,[[.p R]],false,t⟩::(G++[Ki zM])⟩=
   some (.exit 2,⟨e,⟨false,0,1,[[.p R]],false,t⟩::(G++[Ki (pO d a b)])⟩)/\Xh e 1=some (LB 2)/\Xh e 2=some (LB d)/\Xh e 3=some (LB tm)/\Xh e 4=some (.one (.ptr 0 0 0 0))/\Xh e 9=some o/\Xh e 10=some (LB i)/\Xh e 11=some (.one (.ptr (G.length+1) 0 0 0)):=by
 have g:=fun(m:HF) (n:IntKind)=>A.idx (h:=m) (k:=n) (sz:=5) l rfl
 have c:∀(m:HF) (n:IntKind),VV 5 m [.one (.p R),.one (.p (.int n (.ofNat i)))]=some ⟨.one (.p (.ref [.int .i8 q,.int .i8 a,.int .i8 b,.int .i8 r,.int .i8 s])),[],[],[]⟩:=g;have B:=Gt d a;have J:=JN d a b;have D:Xe .i64 (.ofNat 1)=.ofNat 1:=rfl;have F:Xe .i64 (.ofNat 2)=.ofNat 2:=rfl;have u:Xe .i64 (.ofNat (d+1))=.ofNat (d+1):=wrap_i64 (by omega);have H:Xe .i64 (.ofNat (e1 d a))=.ofNat (e1 d a):=wrap_i64 (by omega);have v:Xe .i64 (Int.ofNat d-Int.ofNat (e1 d a))=.ofNat (d-e1 d a):=Wi B (by omega);have w:Xe .i64 (.ofNat (d-e1 d a+1))=.ofNat (d-e1 d a+1):=wrap_i64 (by omega);have x:Xe .i64 (Int.ofNat (d-e1 d a)-Int.ofNat (e2 d a b))=.ofNat (d-e1 d a-e2 d a b):=by
  refine Wi ?_ (by omega);unfold e2;have:=Z1 b.natAbs (show 0<d-e1 d a+1 by omega);omega
 have C:a.natAbs%(d+1)=e1 d a:=rfl;have m2:b.natAbs%(d-e1 d a+1)=e2 d a b:=rfl;apply VO
 ·rw[Xb];simp only[Xo,kT,Xr,VR,reduceIte,Nat.reduceEqDiff,Nat.reduceLeDiff,Nat.reduceLT,Nat.reduceAdd,x34_1,c,j,X4,y,D,u,v,C,zM,Xw,Yr,Zw];rw[Xb];simp only[Xo,kT,Xr,VR,reduceIte,Nat.reduceEqDiff,Nat.reduceLeDiff,Nat.reduceLT,Nat.reduceAdd,c,j,X4,z,F,w,x,m2,Yr,Zw];rw[Xb];simp only[Xo,Xr,VR,reduceIte,Nat.reduceEqDiff,Nat.reduceLT];rfl
 ·simp only[Xo,reduceIte,Nat.reduceEqDiff,and_self]
def bl (a0:Int):Int:=Int.tmod a0 4
theorem nT (a:Int):(bl a).natAbs<=3:=by
 unfold bl;have:=Int.tmod_lt_of_pos a (show(0:Int)<4 by decide);have:=Int.lt_tmod_of_pos a (show(0:Int)<4 by decide);omega
inductive ny (E:Xa)(d:Nat):I'->PL->PL->Prop
 |nil {r:PL}:ny E d [] r r
 |cons {a0 a1 a2 a3 a4:Int} {c1 c2 c3 c4 q1 q2 q3 q4 s r rf:PL} {r2:I'} {rows:I'} (h1:E.pure 73 [.one (.int .i8 a1)]=some (.one (LA a1.natAbs))) (h2:E.pure 73 [.one (.int .i8 a2)]=some (.one (LA a2.natAbs)))
   (h3:E.pure 18 [.one (.int .i64 (bl a0))]=some (.agg [c1,c2,c3,c4])) (h4:E.pure 18 [.one (LA 1)]=some (.agg [q1,q2,q3,q4]))
   (h5:E.pure 17 [.agg [c1,c2,c3,c4],.one (.Xn [q1::q2::q3::q4::mo (pO d a1 a2)])]=some (.one s)) (h6:E.pure 10 [.one r,.one s]=some (.one (.Xn r2))) (h:ny E d rows (.Xn r2) rf):
   ny E d (qY a0 a1 a2 a3 a4::rows) r rf
theorem EM (a:Int):T5 .i8 a (.ofNat 4)=some (.p (.int .i8 (bl a))):=rfl
theorem wU {E:Xa}{K:Nat}(m:E.mode=md){R:PL}{a:I'}(n:Sl R a){d tm:Nat}(hd:d<100)(a7:tm<1000)(hK:3<=K)(t:Nat):∀(rest:I') (r z:PL),ny E d rest r z->
  ∀(i k:Nat) (G:V'),(a.take tm).drop i=rest->i+rest.length=(a.take tm).length->rest.length<k->
  ∃L G',Xb E K 0 [1,2,3,4,9,10] x34_2 k ⟨[(1,LB 2),(2,LB d),(3,LB tm),(4,.one (.ptr 0 0 0 0)),(9,.one (.p r)),(10,LB i)],⟨false,0,1,[[.p R]],false,t⟩::G⟩=
   some (.exit 0,⟨L,⟨false,0,1,[[.p R]],false,t⟩::G'⟩)/\Xh L 9=some (.one (.p z)):=by
 intro rest r z h;induction h with
 |@nil r=>
  intro i k G _ F W;obtain⟨k,rfl⟩:∃H,k=H+1:=⟨k-1,by omega⟩;simp only[Zr,Z0,ZX]at F;by_cases c:i<a.length
  ·have A:¬i<tm:=by omega
   apply DU
   ·rw[Xb];simp only[Xo,Xr,Zw,reduceIte,Nat.reduceEqDiff,x34_2,n.len,c,A];rfl
   ·simp only[Xo,reduceIte,Nat.reduceEqDiff]
  ·skip
   apply DU
   ·rw[Xb];simp only[Xo,Xr,Zw,reduceIte,Nat.reduceEqDiff,x34_2,n.len,c];rfl
   ·simp only[Xo,reduceIte,Nat.reduceEqDiff]
 |@cons u g j M N c1 c2 c3 c4 q1 q2 q3 q4 s r z r2 a5 h1 A T U B V h ih=>
  intro i k G C F W;obtain⟨k,rfl⟩:∃H,k=H+1:=⟨k-1,by omega⟩;simp only[Zi,ZX]at F W;have c:i<a.length:=by omega
  have e:i<tm:=by omega
  obtain⟨S,O⟩:=Xi C;have f:a[i]? =some (qY u g j M N):=by rw[Z8,if_pos e]at S;exact S
  have v:=fun(D:HF) (I:IntKind)=>n.idx (h:=D) (k:=I) (sz:=5) f rfl
  have b:∀(D:HF) (I:IntKind),VV 5 D [.one (.p R),.one (.p (.int I (.ofNat i)))]=some ⟨.one (.p (.ref [.int .i8 u,.int .i8 g,.int .i8 j,.int .i8 M,.int .i8 N])),[],[],[]⟩:=v;obtain⟨y,rfl⟩:∃y,K=y+3:=⟨K-3,by omega⟩;obtain⟨T1,q,X,Y,Z,i5,i6,i7,i8⟩:=si (K:=y+3) (d:=d) (tm:=tm) m n f hd h1 A (o:=.one (.p r)) y G t;have P:Xe .i64 (.ofNat (i+1))=.ofNat (i+1):=wrap_i64 (by omega);have Q:Xe .i64 (bl u)=bl u:=by have:=nT u;exact aQ (by omega) (by omega)
  have l:(pO d g j).length=8:=rfl;have J:(Xw (pO d g j)).take 8=Xw (pO d g j):=rfl;have d1:(Xw (pO d g j)).drop 8=[]:=rfl;generalize a6:pO d g j=mm at q B l J d1;simp only[Ki,zM,Xw,Zt,ZN]at q;have q:_=some (Ex.exit 2,(⟨T1,⟨false,0,1,[[.p R]],false,t⟩::(G++[⟨false,0,8,[Xw mm],false,73⟩])⟩:St)):=q;have x:PL.scalar (.Xn r2)=false:=rfl;cases w:s.scalar with
  |true=>
   rw[Xb];simp only[Xo,Vx,kT,Xr,VR,reduceIte,Nat.reduceEqDiff,Nat.reduceLeDiff,Nat.reduceLT,Nat.reduceAdd,x34_2,n.len,c,e,b,m,X4,q,X,Y,Z,i5,i6,i7,i8,Yr,Zw,EM,P,Q,T,U,B,V,l,J,Xc,Wb,Wf,w,x,Zq,ite_self];exact ih (i+1) k _ O (by rw[ZX];omega) (by omega)
  |false=>
   rw[Xb];simp only[Xo,Vx,kT,Xr,VR,reduceIte,Nat.reduceEqDiff,Nat.reduceLeDiff,Nat.reduceLT,Nat.reduceAdd,x34_2,n.len,c,e,b,m,X4,q,X,Y,Z,i5,i6,i7,i8,Yr,Zw,EM,P,Q,T,U,B,V,l,J,Xc,Wb,Wf,w,x,Zq,ite_self];exact ih (i+1) k _ O (by rw[ZX];omega) (by omega)
theorem uY {E:Xa}{K:Nat}(e:E.mode=md){R:PL}{a:I'}(n:Sl R a){d tm:Nat}(D:d<100)(y:tm<1000)(V:3<=K)(t:Nat){rest:I'}{rf:PL}(h:ny E d rest (.Xn []) rf)(H:rest≠[])(r:a.take tm=rest)(hk:rest.length<K):
  ∃M G',Xb E K 0 [1,2,3,4,9,10] x34_2 K ⟨[(1,LB 2),(2,LB d),(3,LB tm),(4,.one (.ptr 0 0 0 0)),(9,.one (.own 1 0 0 0)),(10,LB 0)],[⟨false,0,1,[[.p R]],false,t⟩,⟨false,0,12,[],false,75⟩]⟩=
   some (.exit 0,⟨M,⟨false,0,1,[[.p R]],false,t⟩::G'⟩)/\Xh M 9=some (.one (.p rf)):=by
 cases h with
 |nil=>exact absurd rfl H
 |@cons m g i A B c1 c2 c3 c4 q1 q2 q3 q4 s _ _ r2 f h1 h2 S T C U h=>
 obtain⟨k,rfl⟩:∃k',K=k'+3:=⟨K-3,by omega⟩;have G:=congrArg List.length r;simp only[Zi,ZX]at G hk;have w:0<a.length:=by omega
 have c:0<tm:=by omega
 have u:(a.take tm).drop 0=qY m g i A B::f:=by rw[Yh];exact r
 obtain⟨Q,N⟩:=Xi u;have j:a[0]? =some (qY m g i A B):=by rw[Z8,if_pos c]at Q;exact Q
 have v:=fun(F:HF) (J:IntKind)=>n.idx (h:=F) (k:=J) (sz:=5) j rfl
 have b:∀(F:HF) (J:IntKind),VV 5 F [.one (.p R),.one (.p (.int J (.ofNat 0)))]=some ⟨.one (.p (.ref [.int .i8 m,.int .i8 g,.int .i8 i,.int .i8 A,.int .i8 B])),[],[],[]⟩:=v;obtain⟨T1,q,W,X,Y,Z,i6,i7,I⟩:=si (K:=k+3) (d:=d) (tm:=tm) e n j D h1 h2 (o:=.one (.own 1 0 0 0)) k [⟨false,0,12,[],false,75⟩] t;have O:Xe .i64 (.ofNat (0+1))=.ofNat (0+1):=rfl;have a5:Xe .i64 (.ofNat 1)=.ofNat 1:=rfl;have P:Xe .i64 (bl m)=bl m:=by have:=nT m;exact aQ (by omega) (by omega)
 have l:(pO d g i).length=8:=rfl;have L:(Xw (pO d g i)).take 8=Xw (pO d g i):=rfl;have d1:(Xw (pO d g i)).drop 8=[]:=rfl;generalize a6:pO d g i=mm at q C l L d1;simp only[Ki,zM,Xw,Zt,ZN,Zi,Zr,Nat.reduceAdd,ZU,ZF]at q I;have q:_=some (Ex.exit 2,(⟨T1,[⟨false,0,1,[[.p R]],false,t⟩,⟨false,0,12,[],false,75⟩,⟨false,0,8,[Xw mm],false,73⟩]⟩:St)):=q;have z:PL.scalar (.Xn r2)=false:=rfl;cases x:s.scalar with
 |true=>
  rw[Xb];simp(decide:=true)only[Xo,Vx,Xr,reduceIte,Nat.reduceAdd,x34_2,n.len,w,c,b,e,X4,q,W,X,Y,Z,i6,i7,I,Yr,EM,O,P,S,T,C,U,l,L,Xc,Wb,Wf,x,z,ite_self];exact wU (K:=k+3) e n D y V t f _ _ h 1 _ _ N (by rw[ZX];omega) (by omega)
 |false=>
  rw[Xb];simp(decide:=true)only[Xo,Vx,Xr,reduceIte,Nat.reduceAdd,x34_2,n.len,w,c,b,e,X4,q,W,X,Y,Z,i6,i7,I,Yr,EM,O,P,S,T,C,U,l,L,Xc,Wb,Wf,x,z,ite_self];exact wU (K:=k+3) e n D y V t f _ _ h 1 _ _ N (by rw[ZX];omega) (by omega)
end Go.Proofs.YtidginchkjhobaaGreat
namespace Go.Num
def GD (d:Nat)(m:P'):Prop:=∃a b c,m=[a,b,c,0,0,0,0,0]/\a+b+c<=d
theorem GD.l8 {d:Nat}{m:P'}(h:GD d m):L8 m:=by obtain⟨a,b,c,rfl,-⟩:=h;rfl
theorem GD.mono {d e:Nat}{m:P'}(h:GD d m)(k:d<=e):GD e m:=by obtain⟨a,b,c,rfl,f⟩:=h;exact⟨a,b,c,rfl,by omega⟩
structure AF (d c n:Nat)(ts:Z'):Prop where
 pl:Pl ts
 Ks:∀t∈ts,GD d t.2
 cf:∀t∈ts,∃z:Int,t.1=(z:Rat)/\z.natAbs<=c
 len:ts.length<=n
theorem AF.nil (d c n:Nat):AF d c n []:=⟨Pl.nil,(fun _ h=>by cases h),(fun _ h=>by cases h),Zw _⟩
theorem AF.mono {d c n e b f:Nat}{g:Z'}(h:AF d c n g)(j:d<=e)(l:c<=b)(m:n<=f):AF e b f g:=
 ⟨h.pl,fun t a=>(h.Ks t a).mono j,fun t a=>by obtain⟨z,i,k⟩:=h.cf t a;exact⟨z,i,by omega⟩,by have:=h.len;omega⟩
theorem R6:∀(n:Nat) {c d:Z'} {x:Qm},c.length+d.length<=n->Q8 c->Q8 d->x∈Wh c d->x∈c\/x∈d\/∃t∈c,∃u∈d,t.2=x.2/\u.2=x.2/\x.1=t.1+u.1
 |_,[],d,x,_,_,_,h=>by rw[X6]at h;exact .inr (.inl h)
 |_,t::c,[],x,_,_,_,h=>by rw[W9]at h;exact .inl h
 |0,t::c,u::d,x,hn,_,_,_=>by simp at hn
 |n+1,t::c,u::d,x,hn,h1,h2,h=>by
  simp only[Zi]at hn;rw[Ra]at h;split at h
  ·rcases Zj.1 h with rfl|h
   ·exact .inl (Zc ..)
   ·rcases R6 n (by simp;omega) h1.tail h2 h with h|h|⟨a,ha,b,hb,e⟩
    ·exact .inl (Zb _ h)
    ·exact .inr (.inl h)
    ·exact .inr (.inr ⟨a,Zb _ ha,b,hb,e⟩)
  ·split at h
   ·rcases Zj.1 h with rfl|h
    ·exact .inr (.inl (Zc ..))
    ·rcases R6 n (by simp;omega) h1 h2.tail h with h|h|⟨a,ha,b,hb,e⟩
     ·exact .inl h
     ·exact .inr (.inl (Zb _ h))
     ·exact .inr (.inr ⟨a,ha,b,Zb _ hb,e⟩)
   ·rename_i a b;have e:WJ t.2 u.2=.ofNat 0:=by
     rcases VX t.2 u.2 with q|q|q
     ·exact absurd q a
     ·exact absurd q b
     ·exact q
    have e2:=S9 (by rw[h1.head,h2.head]) e;have f:x∈Wh c d->_:=fun h=>R6 n (by omega) h1.tail h2.tail h
    have g:(x∈c\/x∈d\/∃t∈c,∃u∈d,t.2=x.2/\u.2=x.2/\x.1=t.1+u.1)->x∈t::c\/x∈u::d\/∃a∈t::c,∃b∈u::d,a.2=x.2/\b.2=x.2/\x.1=a.1+b.1:=fun h=>by
     rcases h with h|h|⟨a,ha,b,hb,e⟩
     ·exact .inl (Zb _ h)
     ·exact .inr (.inl (Zb _ h))
     ·exact .inr (.inr ⟨a,Zb _ ha,b,Zb _ hb,e⟩)
    split at h
    ·exact g (f h)
    ·rcases Zj.1 h with rfl|h
     ·exact .inr (.inr ⟨t,Zc ..,u,Zc ..,rfl,e2.symm,rfl⟩)
     ·exact g (f h)
theorem Pl.add {a b:Z'}(h:Pl a)(k:Pl b):Pl (Wh a b):=⟨cm _ (Ze _) h.q8 k.q8 h.dc k.dc,RQ h.q8 k.q8⟩
theorem AF.add {d c n j m:Nat}{g i:Z'}(h:AF d c n g)(k:AF d j m i):AF d (c+j) (n+m) (Wh g i):=by
 refine⟨h.pl.add k.pl,fun t f=> ?_,fun t f=> ?_,?_⟩
 ·rcases R6 _ (Ze _) h.pl.q8 k.pl.q8 f with h1|h1|⟨a,ha,b,hb,e1,e2,e3⟩
  ·exact h.Ks t h1
  ·exact k.Ks t h1
  ·rw[<-e1];exact h.Ks a ha
 ·rcases R6 _ (Ze _) h.pl.q8 k.pl.q8 f with h1|h1|⟨a,ha,b,hb,e1,e2,e3⟩
  ·obtain⟨z,e,l⟩:=h.cf t h1;exact⟨z,e,by omega⟩
  ·obtain⟨z,e,l⟩:=k.cf t h1;exact⟨z,e,by omega⟩
  ·obtain⟨z,e,l⟩:=h.cf a ha;obtain⟨y,o,p⟩:=k.cf b hb;exact⟨z+y,by rw[e3,e,o,Rat.intCast_add],by omega⟩
 ·have:=UO _ g i (Ze _);have:=h.len;have:=k.len;omega
end Go.Num
namespace Go.Proofs.YtidginchkjhobaaGreat
open Go.Ev Go.Num
theorem Sq.int {z:Int}(h:z.natAbs<4294967296):Sq (z:Rat):=by
 refine Sq.of (k:=1) (by omega) ?_ ?_
 ·rw[Rat.num_intCast];simpa using h
 ·rw[Rat.den_intCast];decide
theorem CG {d c n:Nat}{a:Z'}(h:AF d c n a)(g:c<4294967296):Sz a:=fun t e=>by
 obtain⟨z,b,f⟩:=h.cf t e;rw[b];exact Sq.int (by omega)
abbrev mm (a b:Nat):P':=[a,b,0,0,0,0,0,0]
def Kv (d:Nat)(m:P'):Prop:=∃a b,m=mm a b/\a+b<=d
theorem Kv.KX {d:Nat}{m:P'}(h:Kv d m):GD d m:=by
 obtain⟨a,b,rfl,h⟩:=h;exact⟨a,b,0,rfl,by omega⟩
theorem HB (d:Nat)(a b:Int):Kv d (pO d a b):=by
 have:=Gt d a;have :e2 d a b<=d-e1 d a:=by unfold e2;have:=Z1 b.natAbs (show 0<d-e1 d a+1 by omega);omega
 exact⟨_,_,rfl,by omega⟩
def G2 (d c n:Nat)(f:Z'):Prop:=AF d c n f/\∀t∈f,Kv d t.2
theorem G2.nil (d c n:Nat):G2 d c n []:=⟨AF.nil d c n,fun _ h=>by cases h⟩
theorem G2.add {d c n b f:Nat}{g i:Z'}(h:G2 d c n g)(k:G2 d b f i):G2 d (c+b) (n+f) (Wh g i):=
 ⟨h.1.add k.1,fun t j=>by
  rcases Vj _ (Ze _) h.1.pl.q8 k.1.pl.q8 j with⟨u,a,e⟩|⟨u,a,e⟩
  ·rw[<-e];exact h.2 u a
  ·rw[<-e];exact k.2 u a⟩
theorem G2.mono {d c n a b:Nat}{e:Z'}(h:G2 d c n e)(f:c<=a)(g:n<=b):G2 d a b e:=⟨h.1.mono (Ze _) f g,h.2⟩
theorem Ig {d:Nat}(g:d<=65535){m:P'}(h:GD d m):XD m:=by
 obtain⟨a,b,c,rfl,h⟩:=h;refine⟨rfl,fun e f=> ?_⟩;simp only[Zj,ZV,or_false]at f;rcases f with rfl|rfl|rfl|rfl|rfl|rfl|rfl|rfl<;>omega
def pC (c:N'):Prop:=∃a0 a1 a2 a3 a4:Int,c=qY a0 a1 a2 a3 a4/\(-128<=a0/\a0<=127)/\(-128<=a1/\a1<=127)/\(-128<=a2/\a2<=127)/\(-128<=a3/\a3<=127)
def QR (R:PL):Prop:=∃rs,Sl R rs/\∀c∈rs,pC c
theorem mi {B:Xs}(g:Std B){d:Nat}(O:d<100):∀{rows:I'},(∀c∈rows,pC c)->∀{r:PL} {a:Z'} {c n:Nat},PQ r a->G2 d c n a->c+rows.length*3<4294967296->n+rows.length<100000->
  ∃p m,(XS B fun E _=>ny E d rows r p)/\PQ p m/\G2 d (c+rows.length*3) (n+rows.length) m
 |[],_,r,a,c,n,hr,hg,_,_=>⟨r,a,XS.of fun _ _=>.nil,hr,by simpa using hg⟩
 |row::rows,hrow,r,a,c,n,hr,hg,q,hn=>by
  obtain⟨f,i,j,a3,a4,rfl,-,v,w,b3⟩:=hrow row (Zc ..);have S:=nT f;simp only[Zi,ZG,Z4]at q hn⊢;have G:=xY g v.1 v.2;have H:=xY g w.1 w.2;obtain⟨cz,I,l⟩:=Rm g (x:=bl f) (by unfold DE;omega);obtain⟨co,J,k⟩:=Rm g (x:=.ofNat 1) (by unfold DE;decide);have b:=HB d i j;have u:=Ig (show d<=65535 by omega) b.KX;obtain⟨W,X,Y,Z,rfl⟩:=k.len;have Q:PQ (.Xn [.bool W::X::.bool Y::Z::mo (pO d i j)]) [(((Int.ofNat 1:Int):Rat),pO d i j)]:=⟨_,.Xn,.cons (W0.mk k u) .nil⟩;obtain⟨s,L,R⟩:=Oz g l (Sq.int (by omega)) Q (fun t e=>by
   simp only[Zj,ZV,or_false]at e;subst e;exact Sq.int (z:=1) (by decide)) (by simp)
  have h:G2 d 3 1 (if((bl f:Int):Rat)=0 then[]else X1 ((bl f:Int):Rat) [(((Int.ofNat 1:Int):Rat),pO d i j)]):=by
   split
   ·exact G2.nil _ _ _
   ·rename_i h0;have e1:X1 ((bl f:Int):Rat) [(((Int.ofNat 1:Int):Rat),pO d i j)]=[(((bl f:Int):Rat),pO d i j)]:=by
     simp only[X1,Zt,ZN];rw[show((Int.ofNat 1:Int):Rat)=1 from rfl,Rat.mul_one]
    rw[e1];refine⟨⟨⟨⟨fun t e=> ?_,by simp⟩,fun t e=> ?_⟩,fun t e=> ?_,fun t e=> ?_,by simp⟩,fun t e=> ?_⟩<;>(simp only[Zj,ZV,or_false]at e;subst e)
    ·exact h0
    ·exact b.KX.l8
    ·exact b.KX
    ·exact⟨bl f,rfl,S⟩
    ·exact b
  have P:=hg.1.len;obtain⟨o,M,N⟩:=SY g hr R (CG hg.1 (by omega)) (CG h.1 (by omega)) (by omega) (by have:=h.1.len;omega);obtain⟨p,m,T,U,V⟩:=mi g O (fun c q=>hrow c (Zb _ q)) (r:=.Xn o) ⟨_,.Xn,N⟩ (hg.add h) (by omega) (by omega);obtain⟨c1,c2,c3,c4,rfl⟩:=l.len;exact⟨p,m,(T.and (G.Xk.and (H.Xk.and (I.Xk.and (J.Xk.and (L.Xk.and M.Xk)))))).mono fun E K ⟨y,e1,e2,A,C,D,F⟩=>.cons e1 e2 A C D F y,U,V.mono (by omega) (by omega)⟩
theorem rN {B:Xs}(b:Std B){R:PL}(v:QR R){d tm:Nat}(o:d<100)(h:tm<1000):
  ∃r q,Xu B 34 [.agg [R],.one (LA 2),.one (LA d),.one (LA tm)] (.one r)/\PQ r q/\G2 d (tm*3) tm q:=by
 obtain⟨a,i,g⟩:=v;have h0:PQ (.Xn []) []:=⟨[],.Xn,.nil⟩;have p:(a.take tm).length<=tm:=by rw[ZX];omega
 obtain⟨A,s,k,l,m⟩:=mi b o (rows:=a.take tm) (fun c w=>g c (YC w)) h0 (G2.nil d 0 0) (by omega) (by omega);by_cases f:a.take tm=[]
 ·clear k l m;refine⟨.Xn [],[],Xu.of (b.Wa _ _ rfl) ((b.Xk.and (XS.ge 1)).mono fun E K ⟨e,u⟩=> ?_),h0,G2.nil _ _ _⟩;obtain⟨j,rfl⟩:∃j,K=j+1:=⟨K-1,by omega⟩;have x:tm=0\/a.length=0:=by
   have:=congrArg List.length f;simp only[ZX,Zr]at this;omega
  by_cases n:0<a.length
  ·have t:¬0<tm:=by omega
   simp only[Xo,Xr,reduceIte,Nat.reduceEqDiff,Nat.reduceLeDiff,Nat.reduceAdd,Zw,x34,x34_2,Xb,i.len,n,t]
  ·simp only[Xo,Xr,reduceIte,Nat.reduceEqDiff,Nat.reduceLeDiff,Nat.reduceAdd,Zw,x34,x34_2,Xb,i.len,n]
 ·refine⟨A,s,Xu.of (b.Wa _ _ rfl) ((k.and (b.Xk.and (XS.ge (a.length+tm+4)))).mono fun E K ⟨e1,e,u⟩=> ?_),l,m.mono (by omega) (by omega)⟩;obtain⟨D,C,y,z⟩:=uY (K:=K) e i o h (by omega) 27 e1 f rfl (by rw[ZX];omega);simp only[Xo,Xr,reduceIte,Nat.reduceEqDiff,Nat.reduceLeDiff,Nat.reduceAdd,x34,y,z]
end Go.Proofs.YtidginchkjhobaaGreat
