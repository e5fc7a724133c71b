/- Polynomials out of raw numbers: one term. -/
import Derived.Test.YtidginchkjhobaaGreatGrB
set_option maxHeartbeats 16000000
set_option maxRecDepth 100000
namespace Go.Proofs.YtidginchkjhobaaGreat
open Go.Ev Go.Num
theorem NJ {z:Int}(a: -9223372036854775808<=z)(b:z<9223372036854775808):Xe .i64 z=z:=by
 rw[SI];simp[IntKind.wrap,IntKind.bits,IntKind.signed];omega
theorem uD {B:Xs}(d:Std B){a:Int}(h: -128<=a)(i:a<=127):Xx B 73 [.one (.int .i8 a)] (.one (.int .i64 (.ofNat a.natAbs))):=by
 refine Xx.of (d.Wa _ _ rfl) (d.Xj.mono fun E K g=> ?_);cases a with
 |ofNat n=>
  have b:Xe .i64 (.ofNat n)=.ofNat n:=NJ (by omega) (by omega);have c:¬n<0:=by omega
  simp only[Xm,Xq,reduceIte,Nat.reduceEqDiff,Nat.reduceLeDiff,x73,b,c,Int.natAbs]
 |negSucc n=>
  have b:Xe .i64 (.negSucc n)=.negSucc n:=NJ (by omega) (by omega);have e:(0:Int)-Int.negSucc n=.ofNat (n+1):=by simp only[ZD];omega
  have c:Xe .i64 (.ofNat (n+1))=.ofNat (n+1):=NJ (by simp only[ZD];omega) (by simp only[ZD];omega);have f:fD .neg [.one (.p (.int .i64 (.negSucc n)))]=some ⟨.one (.p (.int .i64 (.ofNat (n+1)))),[],[],[]⟩:=by
   show some (Vc.pure (.one (.p (.int .i64 (Xe .i64 (0-.negSucc n))))))=_;rw[e,c];rfl
  simp only[Xm,Xq,reduceIte,Nat.reduceEqDiff,Nat.reduceLeDiff,x73,b,f,Int.natAbs]
def e1 (d:Nat)(a:Int):Nat:=a.natAbs%(d+1)
def e2 (d:Nat)(a b:Int):Nat:=b.natAbs%(d-e1 d a+1)
def mr (d:Nat)(a b:Int):List Nat:=[e1 d a,e2 d a b,0,0,0,0,0,0]
theorem CG (d:Nat)(a:Int):e1 d a<=d:=by unfold e1;have:=ZY a.natAbs (show 0<d+1 by omega);omega
theorem E1 (d:Nat)(a b:Int):e2 d a b<=d:=by unfold e2;have:=ZY b.natAbs (show 0<d-e1 d a+1 by omega);omega
def nB (a0 a1 a2 a3 a4:Int):List PL:=[.int .i8 a0,.int .i8 a1,.int .i8 a2,.int .i8 a3,.int .i8 a4]
abbrev Fu (m:List Nat):Xz:=⟨false,0,8,[Xu m],false,73⟩
theorem oM {E:Xa}{K:Nat}(j:E.mode=md){R:PL}{f:List (List PL)}(A:Sl R f){d tm i:Nat}{q a b r s:Int}(l:f[i]? =some (nB q a b r s))(J:d<100)
  (y:E.pure 73 [.one (.int .i8 a)]=some (.one (.int .i64 (.ofNat a.natAbs)))) (z:E.pure 73 [.one (.int .i8 b)]=some (.one (.int .i64 (.ofNat b.natAbs)))) {o:DV} (k:Nat) (G:List Xz) (t:Nat):
  ∃e,Xb E K 0 [1,2,3,4,9,10,11,12,13] x34_1 (k+3) ⟨[(1,.one (.p (.int .i64 (.ofNat 2)))),(2,.one (.p (.int .i64 (.ofNat d)))),(3,.one (.p (.int .i64 (.ofNat tm)))),(4,.one (.ptr 0 0 0 0)),(9,o),(10,.one (.p (.int .i64 (.ofNat i)))),(11,.one (.ptr (G.length+1) 0 0 0)),(12,.one (.p (.int .i64 (.ofNat d)))),(13,.one (.p (.int .i64 (.ofNat 0))))],⟨false,0,1,[[.p R]],false,t⟩::(G++[Fu zM])⟩=
   some (.exit 2,⟨e,⟨false,0,1,[[.p R]],false,t⟩::(G++[Fu (mr d a b)])⟩)/\Xh e 1=some (.one (.p (.int .i64 (.ofNat 2))))/\Xh e 2=some (.one (.p (.int .i64 (.ofNat d))))/\Xh e 3=some (.one (.p (.int .i64 (.ofNat tm))))/\Xh e 4=some (.one (.ptr 0 0 0 0))/\Xh e 9=some o/\Xh e 10=some (.one (.p (.int .i64 (.ofNat i))))/\Xh e 11=some (.one (.ptr (G.length+1) 0 0 0)):=by
 have g:=fun(m:HF) (n:IntKind)=>A.idx (h:=m) (k:=n) (sz:=5) l rfl
 have c:∀(m:HF) (n:IntKind),Vv 5 m [.one (.p R),.one (.p (.int n (.ofNat i)))]=some ⟨.one (.p (.ref [.int .i8 q,.int .i8 a,.int .i8 b,.int .i8 r,.int .i8 s])),[],[],[]⟩:=g;have B:=CG d a;have L:=E1 d a b;have F:Xe .i64 (.ofNat 1)=.ofNat 1:=rfl;have H:Xe .i64 (.ofNat 2)=.ofNat 2:=rfl;have u:Xe .i64 (.ofNat (d+1))=.ofNat (d+1):=wrap_i64 (by omega);have I:Xe .i64 (.ofNat (e1 d a))=.ofNat (e1 d a):=wrap_i64 (by omega);have v:Xe .i64 (Int.ofNat d-Int.ofNat (e1 d a))=.ofNat (d-e1 d a):=Wj B (by omega);have w:Xe .i64 (.ofNat (d-e1 d a+1))=.ofNat (d-e1 d a+1):=wrap_i64 (by omega);have x:Xe .i64 (Int.ofNat (d-e1 d a)-Int.ofNat (e2 d a b))=.ofNat (d-e1 d a-e2 d a b):=by
  refine Wj ?_ (by omega);unfold e2;have:=ZY b.natAbs (show 0<d-e1 d a+1 by omega);omega
 have C:a.natAbs%(d+1)=e1 d a:=rfl;have D:b.natAbs%(d-e1 d a+1)=e2 d a b:=rfl;apply VE
 ·rw[Xb];simp only[Xm,uE,Xq,Vg,reduceIte,Nat.reduceEqDiff,Nat.reduceLeDiff,Nat.reduceLT,Nat.reduceAdd,x34_1,c,j,X5,y,F,u,v,C,zM,Xu,ZX,Zt];rw[Xb];simp only[Xm,uE,Xq,Vg,reduceIte,Nat.reduceEqDiff,Nat.reduceLeDiff,Nat.reduceLT,Nat.reduceAdd,c,j,X5,z,H,w,x,D,ZX,Zt];rw[Xb];simp only[Xm,Xq,Vg,reduceIte,Nat.reduceEqDiff,Nat.reduceLT];rfl
 ·simp only[Xm,reduceIte,Nat.reduceEqDiff,and_self]
def N1 (a0:Int):Int:=Int.tmod a0 4
theorem kM (a:Int):(N1 a).natAbs<=3:=by
 unfold N1;have:=Int.tmod_lt_of_pos a (show(0:Int)<4 by decide);have:=Int.lt_tmod_of_pos a (show(0:Int)<4 by decide);omega
inductive kn (E:Xa)(d:Nat):List (List PL)->PL->PL->Prop
 |nil {r:PL}:kn E d [] r r
 |cons {a0 a1 a2 a3 a4:Int} {c1 c2 c3 c4 q1 q2 q3 q4 s r rf:PL} {r2:List (List PL)} {rows:List (List PL)} (h1:E.pure 73 [.one (.int .i8 a1)]=some (.one (.int .i64 (.ofNat a1.natAbs)))) (h2:E.pure 73 [.one (.int .i8 a2)]=some (.one (.int .i64 (.ofNat a2.natAbs))))
   (h3:E.pure 18 [.one (.int .i64 (N1 a0))]=some (.agg [c1,c2,c3,c4])) (h4:E.pure 18 [.one (.int .i64 (.ofNat 1))]=some (.agg [q1,q2,q3,q4]))
   (h5:E.pure 17 [.agg [c1,c2,c3,c4],.one (.Xp [q1::q2::q3::q4::mo (mr d a1 a2)])]=some (.one s)) (h6:E.pure 10 [.one r,.one s]=some (.one (.Xp r2))) (h:kn E d rows (.Xp r2) rf):
   kn E d (nB a0 a1 a2 a3 a4::rows) r rf
theorem Bf (a:Int):U8 .i8 a (.ofNat 4)=some (.p (.int .i8 (N1 a))):=rfl
theorem tL {E:Xa}{K:Nat}(m:E.mode=md){R:PL}{a:List (List PL)}(n:Sl R a){d tm:Nat}(hd:d<100)(a7:tm<1000)(hK:3<=K)(t:Nat):∀(rest:List (List PL)) (r z:PL),kn E d rest r z->
  ∀(i k:Nat) (G:List Xz),(a.take tm).drop i=rest->i+rest.length=(a.take tm).length->rest.length<k->
  ∃L G',Xb E K 0 [1,2,3,4,9,10] x34_2 k ⟨[(1,.one (.p (.int .i64 (.ofNat 2)))),(2,.one (.p (.int .i64 (.ofNat d)))),(3,.one (.p (.int .i64 (.ofNat tm)))),(4,.one (.ptr 0 0 0 0)),(9,.one (.p r)),(10,.one (.p (.int .i64 (.ofNat i))))],⟨false,0,1,[[.p R]],false,t⟩::G⟩=
   some (.exit 0,⟨L,⟨false,0,1,[[.p R]],false,t⟩::G'⟩)/\Xh L 9=some (.one (.p z)):=by
 intro rest r z h;induction h with
 |@nil r=>
  intro i k G _ F W;obtain⟨k,rfl⟩:∃H,k=H+1:=⟨k-1,by omega⟩;simp only[Zu,Yk,ZO]at F;by_cases c:i<a.length
  ·have A:¬i<tm:=by omega
   apply AD
   ·rw[Xb];simp only[Xm,Xq,Zt,reduceIte,Nat.reduceEqDiff,x34_2,n.len,c,A];rfl
   ·simp only[Xm,reduceIte,Nat.reduceEqDiff]
  ·skip
   apply AD
   ·rw[Xb];simp only[Xm,Xq,Zt,reduceIte,Nat.reduceEqDiff,x34_2,n.len,c];rfl
   ·simp only[Xm,reduceIte,Nat.reduceEqDiff]
 |@cons u g j M N c1 c2 c3 c4 q1 q2 q3 q4 s r z r2 a5 h1 A T U B V h ih=>
  intro i k G C F W;obtain⟨k,rfl⟩:∃H,k=H+1:=⟨k-1,by omega⟩;simp only[Zi,ZO]at F W;have c:i<a.length:=by omega
  have e:i<tm:=by omega
  obtain⟨S,O⟩:=Xi C;have f:a[i]? =some (nB u g j M N):=by rw[Z7,if_pos e]at S;exact S
  have v:=fun(D:HF) (I:IntKind)=>n.idx (h:=D) (k:=I) (sz:=5) f rfl
  have b:∀(D:HF) (I:IntKind),Vv 5 D [.one (.p R),.one (.p (.int I (.ofNat i)))]=some ⟨.one (.p (.ref [.int .i8 u,.int .i8 g,.int .i8 j,.int .i8 M,.int .i8 N])),[],[],[]⟩:=v;obtain⟨y,rfl⟩:∃y,K=y+3:=⟨K-3,by omega⟩;obtain⟨T1,q,X,Y,Z,i5,i6,i7,i8⟩:=oM (K:=y+3) (d:=d) (tm:=tm) m n f hd h1 A (o:=.one (.p r)) y G t;have P:Xe .i64 (.ofNat (i+1))=.ofNat (i+1):=wrap_i64 (by omega);have Q:Xe .i64 (N1 u)=N1 u:=by have:=kM u;exact NJ (by omega) (by omega)
  have l:(mr d g j).length=8:=rfl;have J:(Xu (mr d g j)).take 8=Xu (mr d g j):=rfl;have d1:(Xu (mr d g j)).drop 8=[]:=rfl;generalize a6:mr d g j=mm at q B l J d1;simp only[Fu,zM,Xu,Zr,ZE]at q;have q:_=some (Ex.exit 2,(⟨T1,⟨false,0,1,[[.p R]],false,t⟩::(G++[⟨false,0,8,[Xu mm],false,73⟩])⟩:St)):=q;have x:PL.scalar (.Xp r2)=false:=rfl;cases w:s.scalar with
  |true=>
   rw[Xb];simp only[Xm,Vm,uE,Xq,Vg,reduceIte,Nat.reduceEqDiff,Nat.reduceLeDiff,Nat.reduceLT,Nat.reduceAdd,x34_2,n.len,c,e,b,m,X5,q,X,Y,Z,i5,i6,i7,i8,ZX,Zt,Bf,P,Q,T,U,B,V,l,J,Xc,Wb,Wf,w,x,Zq,ite_self];exact ih (i+1) k _ O (by rw[ZO];omega) (by omega)
  |false=>
   rw[Xb];simp only[Xm,Vm,uE,Xq,Vg,reduceIte,Nat.reduceEqDiff,Nat.reduceLeDiff,Nat.reduceLT,Nat.reduceAdd,x34_2,n.len,c,e,b,m,X5,q,X,Y,Z,i5,i6,i7,i8,ZX,Zt,Bf,P,Q,T,U,B,V,l,J,Xc,Wb,Wf,w,x,Zq,ite_self];exact ih (i+1) k _ O (by rw[ZO];omega) (by omega)
theorem rn {E:Xa}{K:Nat}(e:E.mode=md){R:PL}{a:List (List PL)}(n:Sl R a){d tm:Nat}(D:d<100)(y:tm<1000)(V:3<=K)(t:Nat){rest:List (List PL)}{rf:PL}(h:kn E d rest (.Xp []) rf)(H:rest≠[])(r:a.take tm=rest)(hk:rest.length<K):
  ∃M G',Xb E K 0 [1,2,3,4,9,10] x34_2 K ⟨[(1,.one (.p (.int .i64 (.ofNat 2)))),(2,.one (.p (.int .i64 (.ofNat d)))),(3,.one (.p (.int .i64 (.ofNat tm)))),(4,.one (.ptr 0 0 0 0)),(9,.one (.own 1 0 0 0)),(10,.one (.p (.int .i64 (.ofNat 0))))],[⟨false,0,1,[[.p R]],false,t⟩,⟨false,0,12,[],false,75⟩]⟩=
   some (.exit 0,⟨M,⟨false,0,1,[[.p R]],false,t⟩::G'⟩)/\Xh M 9=some (.one (.p rf)):=by
 cases h with
 |nil=>exact absurd rfl H
 |@cons m g i A B c1 c2 c3 c4 q1 q2 q3 q4 s _ _ r2 f h1 h2 S T C U h=>
 obtain⟨k,rfl⟩:∃k',K=k'+3:=⟨K-3,by omega⟩;have G:=congrArg List.length r;simp only[Zi,ZO]at G hk;have w:0<a.length:=by omega
 have c:0<tm:=by omega
 have u:(a.take tm).drop 0=nB m g i A B::f:=by rw[Yb];exact r
 obtain⟨Q,N⟩:=Xi u;have j:a[0]? =some (nB m g i A B):=by rw[Z7,if_pos c]at Q;exact Q
 have v:=fun(F:HF) (J:IntKind)=>n.idx (h:=F) (k:=J) (sz:=5) j rfl
 have b:∀(F:HF) (J:IntKind),Vv 5 F [.one (.p R),.one (.p (.int J (.ofNat 0)))]=some ⟨.one (.p (.ref [.int .i8 m,.int .i8 g,.int .i8 i,.int .i8 A,.int .i8 B])),[],[],[]⟩:=v;obtain⟨T1,q,W,X,Y,Z,i6,i7,I⟩:=oM (K:=k+3) (d:=d) (tm:=tm) e n j D h1 h2 (o:=.one (.own 1 0 0 0)) k [⟨false,0,12,[],false,75⟩] t;have O:Xe .i64 (.ofNat (0+1))=.ofNat (0+1):=rfl;have a5:Xe .i64 (.ofNat 1)=.ofNat 1:=rfl;have P:Xe .i64 (N1 m)=N1 m:=by have:=kM m;exact NJ (by omega) (by omega)
 have l:(mr d g i).length=8:=rfl;have L:(Xu (mr d g i)).take 8=Xu (mr d g i):=rfl;have d1:(Xu (mr d g i)).drop 8=[]:=rfl;generalize a6:mr d g i=mm at q C l L d1;simp only[Fu,zM,Xu,Zr,ZE,Zi,Zu,Nat.reduceAdd,ZI,ZF]at q I;have q:_=some (Ex.exit 2,(⟨T1,[⟨false,0,1,[[.p R]],false,t⟩,⟨false,0,12,[],false,75⟩,⟨false,0,8,[Xu mm],false,73⟩]⟩:St)):=q;have z:PL.scalar (.Xp r2)=false:=rfl;cases x:s.scalar with
 |true=>
  rw[Xb];simp(decide:=true)only[Xm,Vm,Xq,reduceIte,Nat.reduceAdd,x34_2,n.len,w,c,b,e,X5,q,W,X,Y,Z,i6,i7,I,ZX,Bf,O,P,S,T,C,U,l,L,Xc,Wb,Wf,x,z,ite_self];exact tL (K:=k+3) e n D y V t f _ _ h 1 _ _ N (by rw[ZO];omega) (by omega)
 |false=>
  rw[Xb];simp(decide:=true)only[Xm,Vm,Xq,reduceIte,Nat.reduceAdd,x34_2,n.len,w,c,b,e,X5,q,W,X,Y,Z,i6,i7,I,ZX,Bf,O,P,S,T,C,U,l,L,Xc,Wb,Wf,x,z,ite_self];exact tL (K:=k+3) e n D y V t f _ _ h 1 _ _ N (by rw[ZO];omega) (by omega)
end Go.Proofs.YtidginchkjhobaaGreat
namespace Go.Num
def sw (d:Nat)(m:List Nat):Prop:=∃a b c,m=[a,b,c,0,0,0,0,0]/\a+b+c<=d
theorem sw.l8 {d:Nat}{m:List Nat}(h:sw d m):L8 m:=by obtain⟨a,b,c,rfl,-⟩:=h;rfl
theorem sw.mono {d e:Nat}{m:List Nat}(h:sw d m)(k:d<=e):sw e m:=by obtain⟨a,b,c,rfl,f⟩:=h;exact⟨a,b,c,rfl,by omega⟩
structure Sa (d c n:Nat)(ts:List Qm):Prop where
 pl:Pl ts
 my:∀t∈ts,sw d t.2
 cf:∀t∈ts,∃z:Int,t.1=(z:Rat)/\z.natAbs<=c
 len:ts.length<=n
theorem Sa.nil (d c n:Nat):Sa d c n []:=⟨Pl.nil,(fun _ h=>by cases h),(fun _ h=>by cases h),Zt _⟩
theorem Sa.mono {d c n e b f:Nat}{g:List Qm}(h:Sa d c n g)(j:d<=e)(l:c<=b)(m:n<=f):Sa e b f g:=
 ⟨h.pl,fun t a=>(h.my t a).mono j,fun t a=>by obtain⟨z,i,k⟩:=h.cf t a;exact⟨z,i,by omega⟩,by have:=h.len;omega⟩
theorem Rp:∀(n:Nat) {c d:List Qm} {x:Qm},c.length+d.length<=n->Q8 c->Q8 d->x∈WB c d->x∈c\/x∈d\/∃t∈c,∃u∈d,t.2=x.2/\u.2=x.2/\x.1=t.1+u.1
 |_,[],d,x,_,_,_,h=>by rw[Wd]at h;exact .inr (.inl h)
 |_,t::c,[],x,_,_,_,h=>by rw[WY]at h;exact .inl h
 |0,t::c,u::d,x,hn,_,_,_=>by simp at hn
 |n+1,t::c,u::d,x,hn,h1,h2,h=>by
  simp only[Zi]at hn;rw[Sw]at h;split at h
  ·rcases Zj.1 h with rfl|h
   ·exact .inl (Ze ..)
   ·rcases Rp n (by simp;omega) h1.tail h2 h with h|h|⟨a,ha,b,hb,e⟩
    ·exact .inl (Zc _ h)
    ·exact .inr (.inl h)
    ·exact .inr (.inr ⟨a,Zc _ ha,b,hb,e⟩)
  ·split at h
   ·rcases Zj.1 h with rfl|h
    ·exact .inr (.inl (Ze ..))
    ·rcases Rp n (by simp;omega) h1 h2.tail h with h|h|⟨a,ha,b,hb,e⟩
     ·exact .inl h
     ·exact .inr (.inl (Zc _ h))
     ·exact .inr (.inr ⟨a,ha,b,Zc _ hb,e⟩)
   ·rename_i a b;have e:WL t.2 u.2=.ofNat 0:=by
     rcases Vz t.2 u.2 with q|q|q
     ·exact absurd q a
     ·exact absurd q b
     ·exact q
    have e2:=Su (by rw[h1.head,h2.head]) e;have f:x∈WB c d->_:=fun h=>Rp n (by omega) h1.tail h2.tail h
    have g:(x∈c\/x∈d\/∃t∈c,∃u∈d,t.2=x.2/\u.2=x.2/\x.1=t.1+u.1)->x∈t::c\/x∈u::d\/∃a∈t::c,∃b∈u::d,a.2=x.2/\b.2=x.2/\x.1=a.1+b.1:=fun h=>by
     rcases h with h|h|⟨a,ha,b,hb,e⟩
     ·exact .inl (Zc _ h)
     ·exact .inr (.inl (Zc _ h))
     ·exact .inr (.inr ⟨a,Zc _ ha,b,Zc _ hb,e⟩)
    split at h
    ·exact g (f h)
    ·rcases Zj.1 h with rfl|h
     ·exact .inr (.inr ⟨t,Ze ..,u,Ze ..,rfl,e2.symm,rfl⟩)
     ·exact g (f h)
theorem Pl.add {a b:List Qm}(h:Pl a)(k:Pl b):Pl (WB a b):=⟨aD _ (Zh _) h.q8 k.q8 h.dc k.dc,dQ h.q8 k.q8⟩
theorem Sa.add {d c n j m:Nat}{g i:List Qm}(h:Sa d c n g)(k:Sa d j m i):Sa d (c+j) (n+m) (WB g i):=by
 refine⟨h.pl.add k.pl,fun t f=> ?_,fun t f=> ?_,?_⟩
 ·rcases Rp _ (Zh _) h.pl.q8 k.pl.q8 f with h1|h1|⟨a,ha,b,hb,e1,e2,e3⟩
  ·exact h.my t h1
  ·exact k.my t h1
  ·rw[<-e1];exact h.my a ha
 ·rcases Rp _ (Zh _) h.pl.q8 k.pl.q8 f with h1|h1|⟨a,ha,b,hb,e1,e2,e3⟩
  ·obtain⟨z,e,l⟩:=h.cf t h1;exact⟨z,e,by omega⟩
  ·obtain⟨z,e,l⟩:=k.cf t h1;exact⟨z,e,by omega⟩
  ·obtain⟨z,e,l⟩:=h.cf a ha;obtain⟨y,o,p⟩:=k.cf b hb;exact⟨z+y,by rw[e3,e,o,Rat.intCast_add],by omega⟩
 ·have:=RL _ g i (Zh _);have:=h.len;have:=k.len;omega
end Go.Num
namespace Go.Proofs.YtidginchkjhobaaGreat
open Go.Ev Go.Num
theorem Sq.int {z:Int}(h:z.natAbs<4294967296):Sq (z:Rat):=by
 refine Sq.of (k:=1) (by omega) ?_ ?_
 ·rw[Rat.num_intCast];simpa using h
 ·rw[Rat.den_intCast];decide
theorem P1 {d c n:Nat}{a:List Qm}(h:Sa d c n a)(g:c<4294967296):Sz a:=fun t e=>by
 obtain⟨z,b,f⟩:=h.cf t e;rw[b];exact Sq.int (by omega)
abbrev mm (a b:Nat):List Nat:=[a,b,0,0,0,0,0,0]
def AH (d:Nat)(m:List Nat):Prop:=∃a b,m=mm a b/\a+b<=d
theorem AH.FY {d:Nat}{m:List Nat}(h:AH d m):sw d m:=by
 obtain⟨a,b,rfl,h⟩:=h;exact⟨a,b,0,rfl,by omega⟩
theorem Dq (d:Nat)(a b:Int):AH d (mr d a b):=by
 have:=CG d a;have :e2 d a b<=d-e1 d a:=by unfold e2;have:=ZY b.natAbs (show 0<d-e1 d a+1 by omega);omega
 exact⟨_,_,rfl,by omega⟩
def G2 (d c n:Nat)(f:List Qm):Prop:=Sa d c n f/\∀t∈f,AH d t.2
theorem G2.nil (d c n:Nat):G2 d c n []:=⟨Sa.nil d c n,fun _ h=>by cases h⟩
theorem G2.add {d c n b f:Nat}{g i:List Qm}(h:G2 d c n g)(k:G2 d b f i):G2 d (c+b) (n+f) (WB g i):=
 ⟨h.1.add k.1,fun t j=>by
  rcases Um _ (Zh _) h.1.pl.q8 k.1.pl.q8 j with⟨u,a,e⟩|⟨u,a,e⟩
  ·rw[<-e];exact h.2 u a
  ·rw[<-e];exact k.2 u a⟩
theorem G2.mono {d c n a b:Nat}{e:List Qm}(h:G2 d c n e)(f:c<=a)(g:n<=b):G2 d a b e:=⟨h.1.mono (Zh _) f g,h.2⟩
theorem Aa {d:Nat}(g:d<=65535){m:List Nat}(h:sw d m):XE m:=by
 obtain⟨a,b,c,rfl,h⟩:=h;refine⟨rfl,fun e f=> ?_⟩;simp only[Zj,Z0,or_false]at f;rcases f with rfl|rfl|rfl|rfl|rfl|rfl|rfl|rfl<;>omega
def mg (c:List PL):Prop:=∃a0 a1 a2 a3 a4:Int,c=nB a0 a1 a2 a3 a4/\(-128<=a0/\a0<=127)/\(-128<=a1/\a1<=127)/\(-128<=a2/\a2<=127)/\(-128<=a3/\a3<=127)
def UD (R:PL):Prop:=∃rs,Sl R rs/\∀c∈rs,mg c
theorem js {B:Xs}(g:Std B){d:Nat}(O:d<100):∀{rows:List (List PL)},(∀c∈rows,mg c)->∀{r:PL} {a:List Qm} {c n:Nat},PQ r a->G2 d c n a->c+rows.length*3<4294967296->n+rows.length<100000->
  ∃p m,(X1 B fun E _=>kn E d rows r p)/\PQ p m/\G2 d (c+rows.length*3) (n+rows.length) m
 |[],_,r,a,c,n,hr,hg,_,_=>⟨r,a,X1.of fun _ _=>.nil,hr,by simpa using hg⟩
 |row::rows,hrow,r,a,c,n,hr,hg,q,hn=>by
  obtain⟨f,i,j,a3,a4,rfl,-,v,w,b3⟩:=hrow row (Ze ..);have S:=kM f;simp only[Zi,ZG,ZZ]at q hn⊢;have G:=uD g v.1 v.2;have H:=uD g w.1 w.2;obtain⟨cz,I,l⟩:=N6 g (x:=N1 f) (by unfold D5;omega);obtain⟨co,J,k⟩:=N6 g (x:=.ofNat 1) (by unfold D5;decide);have b:=Dq d i j;have u:=Aa (show d<=65535 by omega) b.FY;obtain⟨W,X,Y,Z,rfl⟩:=k.len;have Q:PQ (.Xp [.bool W::X::.bool Y::Z::mo (mr d i j)]) [(((Int.ofNat 1:Int):Rat),mr d i j)]:=⟨_,.Xp,.cons (W9.mk k u) .nil⟩;obtain⟨s,L,R⟩:=nj g l (Sq.int (by omega)) Q (fun t e=>by
   simp only[Zj,Z0,or_false]at e;subst e;exact Sq.int (z:=1) (by decide)) (by simp)
  have h:G2 d 3 1 (if((N1 f:Int):Rat)=0 then[]else Uc ((N1 f:Int):Rat) [(((Int.ofNat 1:Int):Rat),mr d i j)]):=by
   split
   ·exact G2.nil _ _ _
   ·rename_i h0;have e1:Uc ((N1 f:Int):Rat) [(((Int.ofNat 1:Int):Rat),mr d i j)]=[(((N1 f:Int):Rat),mr d i j)]:=by
     simp only[Uc,Zr,ZE];rw[show((Int.ofNat 1:Int):Rat)=1 from rfl,Rat.mul_one]
    rw[e1];refine⟨⟨⟨⟨fun t e=> ?_,by simp⟩,fun t e=> ?_⟩,fun t e=> ?_,fun t e=> ?_,by simp⟩,fun t e=> ?_⟩<;>(simp only[Zj,Z0,or_false]at e;subst e)
    ·exact h0
    ·exact b.FY.l8
    ·exact b.FY
    ·exact⟨N1 f,rfl,S⟩
    ·exact b
  have P:=hg.1.len;obtain⟨o,M,N⟩:=Sf g hr R (P1 hg.1 (by omega)) (P1 h.1 (by omega)) (by omega) (by have:=h.1.len;omega);obtain⟨p,m,T,U,V⟩:=js g O (fun c q=>hrow c (Zc _ q)) (r:=.Xp o) ⟨_,.Xp,N⟩ (hg.add h) (by omega) (by omega);obtain⟨c1,c2,c3,c4,rfl⟩:=l.len;exact⟨p,m,(T.and (G.Xj.and (H.Xj.and (I.Xj.and (J.Xj.and (L.Xj.and M.Xj)))))).mono fun E K ⟨y,e1,e2,A,C,D,F⟩=>.cons e1 e2 A C D F y,U,V.mono (by omega) (by omega)⟩
theorem oh {B:Xs}(b:Std B){R:PL}(v:UD R){d tm:Nat}(o:d<100)(h:tm<1000):
  ∃r q,Xx B 34 [.agg [R],.one (.int .i64 (.ofNat 2)),.one (.int .i64 (.ofNat d)),.one (.int .i64 (.ofNat tm))] (.one r)/\PQ r q/\G2 d (tm*3) tm q:=by
 obtain⟨a,i,g⟩:=v;have h0:PQ (.Xp []) []:=⟨[],.Xp,.nil⟩;have p:(a.take tm).length<=tm:=by rw[ZO];omega
 obtain⟨A,s,k,l,m⟩:=js b o (rows:=a.take tm) (fun c w=>g c (YM w)) h0 (G2.nil d 0 0) (by omega) (by omega);by_cases f:a.take tm=[]
 ·clear k l m;refine⟨.Xp [],[],Xx.of (b.Wa _ _ rfl) ((b.Xj.and (X1.ge 1)).mono fun E K ⟨e,u⟩=> ?_),h0,G2.nil _ _ _⟩;obtain⟨j,rfl⟩:∃j,K=j+1:=⟨K-1,by omega⟩;have x:tm=0\/a.length=0:=by
   have:=congrArg List.length f;simp only[ZO,Zu]at this;omega
  by_cases n:0<a.length
  ·have t:¬0<tm:=by omega
   simp only[Xm,Xq,reduceIte,Nat.reduceEqDiff,Nat.reduceLeDiff,Nat.reduceAdd,Zt,x34,x34_2,Xb,i.len,n,t]
  ·simp only[Xm,Xq,reduceIte,Nat.reduceEqDiff,Nat.reduceLeDiff,Nat.reduceAdd,Zt,x34,x34_2,Xb,i.len,n]
 ·refine⟨A,s,Xx.of (b.Wa _ _ rfl) ((k.and (b.Xj.and (X1.ge (a.length+tm+4)))).mono fun E K ⟨e1,e,u⟩=> ?_),l,m.mono (by omega) (by omega)⟩;obtain⟨D,C,y,z⟩:=rn (K:=K) e i o h (by omega) 27 e1 f rfl (by rw[ZO];omega);simp only[Xm,Xq,reduceIte,Nat.reduceEqDiff,Nat.reduceLeDiff,Nat.reduceAdd,x34,y,z]
end Go.Proofs.YtidginchkjhobaaGreat
