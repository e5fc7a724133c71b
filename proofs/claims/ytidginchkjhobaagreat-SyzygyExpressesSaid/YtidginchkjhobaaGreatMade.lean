/- Polynomials out of raw numbers: one term. -/
import Derived.Test.YtidginchkjhobaaGreatGrB
set_option maxHeartbeats 16000000
set_option maxRecDepth 100000
namespace Go.Ev
open Go.Proofs.YtidginchkjhobaaGreat
theorem bI {z}(a: -9223372036854775808<=z)(b:z<9223372036854775808):Xd .i64 z=z:=by
 rw[Ry];simp[IntKind.wrap,IntKind.bits,IntKind.signed];omega
theorem zV {B}(d:Std B){a}(h: -128<=a)(i:a<=127):Xv B 73 [.one (.int .i8 a)] (.one (La0 a.natAbs)):=by
 refine Xv.of (d.Wa _ _ rfl) (d.Xk.mono fun E K g=> ?_);cases a with
 |ofNat n=>
  have b:Xd .i64 (.ofNat n)=.ofNat n:=bI (by omega) (by omega);have c:¬n<0:=by omega
  simp only[Xo,Xs,reduceIte,Nat.reduceEqDiff,Nat.reduceLeDiff,x73,b,c,Int.natAbs]
 |negSucc n=>
  have b:Xd .i64 (.negSucc n)=.negSucc n:=bI (by omega) (by omega);have e:(0:Int)-Int.negSucc n=.ofNat (n+1):=by simp only[Yx];omega
  have c:Xd .i64 (.ofNat (n+1))=.ofNat (n+1):=bI (by simp only[Yx];omega) (by simp only[Yx];omega);have f:jI .neg [La4 (.int .i64 (.negSucc n))]=some ⟨La1 (n+1),[],[],[]⟩:=by
   show some (Vk.pure (La4 (.int .i64 (Xd .i64 (0-.negSucc n)))))=_;rw[e,c];rfl
  simp only[Xo,Xs,reduceIte,Nat.reduceEqDiff,Nat.reduceLeDiff,x73,b,f,Int.natAbs]
def e1 (d:Nat)(a:Int):Nat:=a.natAbs%(d+1)
def e2 (d:Nat)(a b:Int):Nat:=b.natAbs%(d-e1 d a+1)
def rC (d:Nat)(a b:Int):P':=[e1 d a,e2 d a b,0,0,0,0,0,0]
theorem Iw (d)(a):e1 d a<=d:=by unfold e1;have:=ZN a.natAbs (show 0<d+1 by omega);omega
theorem LP (d)(a b):e2 d a b<=d:=by unfold e2;have:=ZN b.natAbs (show 0<d-e1 d a+1 by omega);omega
def sZ (a0 a1 a2 a3 a4:Int):N':=[.int .i8 a0,.int .i8 a1,.int .i8 a2,.int .i8 a3,.int .i8 a4]
abbrev Mm (m:P'):Xx:=⟨false,0,8,[Xu m],false,73⟩
theorem um {E}{K}(j:E.mode=md){R}{f}(A:Sl R f){d tm i}{q a b r s}(l:f[i]? =some (sZ q a b r s))(I:d<100)
  (y:E.pure 73 [.one (.int .i8 a)]=some (.one (La0 a.natAbs))) (z:E.pure 73 [.one (.int .i8 b)]=some (.one (La0 b.natAbs))) {o} (k) (G) (t):
  ∃e,Xb E K 0 [1,2,3,4,9,10,11,12,13] x34_1 (k+3) ⟨[(1,La1 2),(2,La1 d),(3,La1 tm),(4,.one (.ptr 0 0 0 0)),(9,o),(10,La1 i),(11,.one (.ptr (G.length+1) 0 0 0)),(12,La1 d),(13,La1 0)],⟨false,0,1,[[.p R]],false,t⟩::(G++[Mm zM])⟩=
   some (.exit 2,⟨e,⟨false,0,1,[[.p R]],false,t⟩::(G++[Mm (rC d a b)])⟩)/\Xi e 1=some (La1 2)/\Xi e 2=some (La1 d)/\Xi e 3=some (La1 tm)/\Xi e 4=some (.one (.ptr 0 0 0 0))/\Xi e 9=some o/\Xi e 10=some (La1 i)/\Xi e 11=some (.one (.ptr (G.length+1) 0 0 0)):=by
 have g:=fun(m:HF) (n:IntKind)=>A.idx (h:=m) (k:=n) (sz:=5) l rfl
 have c:∀(m:HF) (n:IntKind),VX 5 m [La4 R,La4 (.int n (.ofNat i))]=some ⟨La4 (.ref [.int .i8 q,.int .i8 a,.int .i8 b,.int .i8 r,.int .i8 s]),[],[],[]⟩:=g;have B:=Iw d a;have J:=LP d a b;have D:Xd .i64 (.ofNat 1)=.ofNat 1:=rfl;have F:Xd .i64 (.ofNat 2)=.ofNat 2:=rfl;have u:Xd .i64 (.ofNat (d+1))=.ofNat (d+1):=wrap_i64 (by omega);have H:Xd .i64 (.ofNat (e1 d a))=.ofNat (e1 d a):=wrap_i64 (by omega);have v:Xd .i64 (Int.ofNat d-Int.ofNat (e1 d a))=.ofNat (d-e1 d a):=X9 B (by omega);have w:Xd .i64 (.ofNat (d-e1 d a+1))=.ofNat (d-e1 d a+1):=wrap_i64 (by omega);have x:Xd .i64 (Int.ofNat (d-e1 d a)-Int.ofNat (e2 d a b))=.ofNat (d-e1 d a-e2 d a b):=by
  refine X9 ?_ (by omega);unfold e2;have:=ZN b.natAbs (show 0<d-e1 d a+1 by omega);omega
 have C:a.natAbs%(d+1)=e1 d a:=rfl;have m2:b.natAbs%(d-e1 d a+1)=e2 d a b:=rfl;apply VW
 ·rw[Xb];simp only[Xo,rq,Xs,VD,reduceIte,Nat.reduceEqDiff,Nat.reduceLeDiff,Nat.reduceLT,Nat.reduceAdd,x34_1,c,j,X3,y,D,u,v,C,zM,Xu,Z6,Zw];rw[Xb];simp only[Xo,rq,Xs,VD,reduceIte,Nat.reduceEqDiff,Nat.reduceLeDiff,Nat.reduceLT,Nat.reduceAdd,c,j,X3,z,F,w,x,m2,Z6,Zw];rw[Xb];simp only[Xo,Xs,VD,reduceIte,Nat.reduceEqDiff,Nat.reduceLT];rfl
 ·simp only[Xo,reduceIte,Nat.reduceEqDiff,and_self]
def eo (a0:Int):Int:=Int.tmod a0 4
theorem pC (a):(eo a).natAbs<=3:=by
 unfold eo;have:=Int.tmod_lt_of_pos a (show(0:Int)<4 by decide);have:=Int.lt_tmod_of_pos a (show(0:Int)<4 by decide);omega
inductive oV (E:Xa)(d:Nat):Z'->PL->PL->Prop
 |nil {r:PL}:oV E d [] r r
 |cons {a0 a1 a2 a3 a4:Int} {c1 c2 c3 c4 q1 q2 q3 q4 s r rf:PL} {r2:Z'} {rows:Z'} (h1:E.pure 73 [.one (.int .i8 a1)]=some (.one (La0 a1.natAbs))) (h2:E.pure 73 [.one (.int .i8 a2)]=some (.one (La0 a2.natAbs)))
   (h3:E.pure 18 [.one (.int .i64 (eo a0))]=some (.agg [c1,c2,c3,c4])) (h4:E.pure 18 [.one (La0 1)]=some (.agg [q1,q2,q3,q4]))
   (h5:E.pure 17 [.agg [c1,c2,c3,c4],.one (.Xl [q1::q2::q3::q4::mo (rC d a1 a2)])]=some (.one s)) (h6:E.pure 10 [.one r,.one s]=some (.one (.Xl r2))) (h:oV E d rows (.Xl r2) rf):
   oV E d (sZ a0 a1 a2 a3 a4::rows) r rf
theorem GV (a):TN .i8 a (.ofNat 4)=some (.p (.int .i8 (eo a))):=rfl
theorem yS {E}{K}(m:E.mode=md){R}{a}(n:Sl R a){d tm}(hd:d<100)(a7:tm<1000)(hK:3<=K)(t):∀rest r z,oV E d rest r z->
  ∀i k G,(a.take tm).drop i=rest->i+rest.length=(a.take tm).length->rest.length<k->
  ∃L G',Xb E K 0 [1,2,3,4,9,10] x34_2 k ⟨[(1,La1 2),(2,La1 d),(3,La1 tm),(4,.one (.ptr 0 0 0 0)),(9,La4 r),(10,La1 i)],⟨false,0,1,[[.p R]],false,t⟩::G⟩=
   some (.exit 0,⟨L,⟨false,0,1,[[.p R]],false,t⟩::G'⟩)/\Xi L 9=some (La4 z):=by
 intro rest r z h;induction h with
 |@nil r=>
  intro i k G _ F W;rcases k with _|k;omega;simp only[Zr,ZU,Z4]at F;by_cases c:i<a.length
  ·have A:¬i<tm:=by omega
   apply Cn
   ·rw[Xb];simp only[Xo,Xs,Zw,reduceIte,Nat.reduceEqDiff,x34_2,n.len,c,A];rfl
   ·simp only[Xo,reduceIte,Nat.reduceEqDiff]
  ·skip
   apply Cn
   ·rw[Xb];simp only[Xo,Xs,Zw,reduceIte,Nat.reduceEqDiff,x34_2,n.len,c];rfl
   ·simp only[Xo,reduceIte,Nat.reduceEqDiff]
 |@cons u g j M N c1 c2 c3 c4 q1 q2 q3 q4 s r z r2 a5 h1 A T U B V h ih=>
  intro i k G C F W;rcases k with _|k;omega;simp only[Zj,Z4]at F W;have c:i<a.length:=by omega
  have e:i<tm:=by omega
  obtain⟨S,O⟩:=Xh C;have f:a[i]? =some (sZ u g j M N):=by rw[List.getElem?_take,if_pos e]at S;exact S
  have v:=fun(D:HF) (I:IntKind)=>n.idx (h:=D) (k:=I) (sz:=5) f rfl
  have b:∀(D:HF) (I:IntKind),VX 5 D [La4 R,La4 (.int I (.ofNat i))]=some ⟨La4 (.ref [.int .i8 u,.int .i8 g,.int .i8 j,.int .i8 M,.int .i8 N]),[],[],[]⟩:=v;obtain⟨y,rfl⟩:∃y,K=y+3:=⟨K-3,by omega⟩;obtain⟨T1,q,X,Y,Z,i5,i6,i7,i8⟩:=um (K:=y+3) (d:=d) (tm:=tm) m n f hd h1 A (o:=La4 r) y G t;have P:Xd .i64 (.ofNat (i+1))=.ofNat (i+1):=wrap_i64 (by omega);have Q:Xd .i64 (eo u)=eo u:=by have:=pC u;exact bI (by omega) (by omega)
  have l:(rC d g j).length=8:=rfl;have J:(Xu (rC d g j)).take 8=Xu (rC d g j):=rfl;have d1:(Xu (rC d g j)).drop 8=[]:=rfl;generalize a6:rC d g j=mm at q B l J d1;simp only[Mm,zM,Xu,Zt,ZF]at q;have q:_=some (Ex.exit 2,(⟨T1,⟨false,0,1,[[.p R]],false,t⟩::(G++[⟨false,0,8,[Xu mm],false,73⟩])⟩:St)):=q;have x:PL.scalar (.Xl r2)=false:=rfl;cases w:s.scalar with
  |true=>
   rw[Xb];simp only[Xo,Vv,rq,Xs,VD,reduceIte,Nat.reduceEqDiff,Nat.reduceLeDiff,Nat.reduceLT,Nat.reduceAdd,x34_2,n.len,c,e,b,m,X3,q,X,Y,Z,i5,i6,i7,i8,Z6,Zw,GV,P,Q,T,U,B,V,l,J,Xc,Wc,Wg,w,x,Zp,ite_self];exact ih (i+1) k _ O (by rw[Z4];omega) (by omega)
  |false=>
   rw[Xb];simp only[Xo,Vv,rq,Xs,VD,reduceIte,Nat.reduceEqDiff,Nat.reduceLeDiff,Nat.reduceLT,Nat.reduceAdd,x34_2,n.len,c,e,b,m,X3,q,X,Y,Z,i5,i6,i7,i8,Z6,Zw,GV,P,Q,T,U,B,V,l,J,Xc,Wc,Wg,w,x,Zp,ite_self];exact ih (i+1) k _ O (by rw[Z4];omega) (by omega)
theorem wJ {E}{K}(e:E.mode=md){R}{a}(n:Sl R a){d tm}(D:d<100)(y:tm<1000)(V:3<=K)(t){rest}{rf}(h:oV E d rest (.Xl []) rf)(H:rest≠[])(r:a.take tm=rest)(hk:rest.length<K):
  ∃M G',Xb E K 0 [1,2,3,4,9,10] x34_2 K ⟨[(1,La1 2),(2,La1 d),(3,La1 tm),(4,.one (.ptr 0 0 0 0)),(9,.one (.own 1 0 0 0)),(10,La1 0)],[⟨false,0,1,[[.p R]],false,t⟩,⟨false,0,12,[],false,75⟩]⟩=
   some (.exit 0,⟨M,⟨false,0,1,[[.p R]],false,t⟩::G'⟩)/\Xi M 9=some (La4 rf):=by
 cases h with
 |nil=>exact absurd rfl H
 |@cons m g i A B c1 c2 c3 c4 q1 q2 q3 q4 s _ _ r2 f h1 h2 S T C U h=>
 obtain⟨k,rfl⟩:∃k',K=k'+3:=⟨K-3,by omega⟩;have G:=congrArg List.length r;simp only[Zj,Z4]at G hk;have w:0<a.length:=by omega
 have c:0<tm:=by omega
 have u:(a.take tm).drop 0=sZ m g i A B::f:=by rw[Z7];exact r
 obtain⟨Q,N⟩:=Xh u;have j:a[0]? =some (sZ m g i A B):=by rw[List.getElem?_take,if_pos c]at Q;exact Q
 have v:=fun(F:HF) (J:IntKind)=>n.idx (h:=F) (k:=J) (sz:=5) j rfl
 have b:∀(F:HF) (J:IntKind),VX 5 F [La4 R,La4 (.int J (.ofNat 0))]=some ⟨La4 (.ref [.int .i8 m,.int .i8 g,.int .i8 i,.int .i8 A,.int .i8 B]),[],[],[]⟩:=v;obtain⟨T1,q,W,X,Y,Z,i6,i7,I⟩:=um (K:=k+3) (d:=d) (tm:=tm) e n j D h1 h2 (o:=.one (.own 1 0 0 0)) k [⟨false,0,12,[],false,75⟩] t;have O:Xd .i64 (.ofNat (0+1))=.ofNat (0+1):=rfl;have a5:Xd .i64 (.ofNat 1)=.ofNat 1:=rfl;have P:Xd .i64 (eo m)=eo m:=by have:=pC m;exact bI (by omega) (by omega)
 have l:(rC d g i).length=8:=rfl;have L:(Xu (rC d g i)).take 8=Xu (rC d g i):=rfl;have d1:(Xu (rC d g i)).drop 8=[]:=rfl;generalize a6:rC d g i=mm at q C l L d1;simp only[Mm,zM,Xu,Zt,ZF,Zj,Zr,Nat.reduceAdd,ZD,ZB]at q I;have q:_=some (Ex.exit 2,(⟨T1,[⟨false,0,1,[[.p R]],false,t⟩,⟨false,0,12,[],false,75⟩,⟨false,0,8,[Xu mm],false,73⟩]⟩:St)):=q;have z:PL.scalar (.Xl r2)=false:=rfl;cases x:s.scalar with
 |true=>
  rw[Xb];simp+decide only[Xo,Vv,Xs,reduceIte,Nat.reduceAdd,x34_2,n.len,w,c,b,e,X3,q,W,X,Y,Z,i6,i7,I,Z6,GV,O,P,S,T,C,U,l,L,Xc,Wc,Wg,x,z,ite_self];exact yS (K:=k+3) e n D y V t f _ _ h 1 _ _ N (by rw[Z4];omega) (by omega)
 |false=>
  rw[Xb];simp+decide only[Xo,Vv,Xs,reduceIte,Nat.reduceAdd,x34_2,n.len,w,c,b,e,X3,q,W,X,Y,Z,i6,i7,I,Z6,GV,O,P,S,T,C,U,l,L,Xc,Wc,Wg,x,z,ite_self];exact yS (K:=k+3) e n D y V t f _ _ h 1 _ _ N (by rw[Z4];omega) (by omega)
def IH (d:Nat)(m:P'):Prop:=∃a b c,m=[a,b,c,0,0,0,0,0]/\a+b+c<=d
theorem IH.l8 {d}{m}(h:IH d m):L8 m:=by obtain⟨a,b,c,rfl,-⟩:=h;rfl
theorem IH.mono {d e}{m}(h:IH d m)(k:d<=e):IH e m:=by obtain⟨a,b,c,rfl,f⟩:=h;exact⟨a,b,c,rfl,by omega⟩
structure Cp (d c n:Nat)(ts:I'):Prop where
 pl:Pl ts
 Mu:∀t∈ts,IH d t.2
 cf:∀t∈ts,∃z:Int,t.1=(z:Rat)/\z.natAbs<=c
 len:ts.length<=n
theorem Cp.nil (d c n):Cp d c n []:=⟨Pl.nil,(fun _ h=>by cases h),(fun _ h=>by cases h),Zw _⟩
theorem Cp.mono {d c n e b f}{g}(h:Cp d c n g)(i:d<=e)(l:c<=b)(m:n<=f):Cp e b f g:=
 ⟨h.pl,fun t a=>(h.Mu t a).mono i,fun t a=>by obtain⟨z,j,k⟩:=h.cf t a;grind,by have:=h.len;omega⟩
theorem Qg:∀n {c d} {x},c.length+d.length<=n->Q8 c->Q8 d->x∈X8 c d->x∈c\/x∈d\/∃t∈c,∃u∈d,t.2=x.2/\u.2=x.2/\x.1=t.1+u.1
 |_,[],d,x,_,_,_,h=>by grind [X5]
 |_,t::c,[],x,_,_,_,h=>by grind [W6]
 |0,t::c,u::d,x,hn,_,_,_=>by simp at hn
 |n+1,t::c,u::d,x,hn,h1,h2,h=>by
  simp only[Zj]at hn;rw[Ro]at h;split at h
  ·rcases Zk.1 h with rfl|h
   ·grind
   ·rcases Qg n (by simp;omega) h1.tail h2 h with h|h|⟨a,ha,b,hb,e⟩
    ·grind
    ·exact .inr (.inl h)
    grind
  ·split at h
   ·rcases Zk.1 h with rfl|h
    ·grind
    ·rcases Qg n (by simp;omega) h1 h2.tail h with h|h|⟨a,ha,b,hb,e⟩
     ·exact .inl h
     ·grind
     grind
   ·rename_i a b;have e:WS t.2 u.2=.ofNat 0:=by
     grind [VZ]
    have e2:=Rn (by rw[h1.head,h2.head]) e;have f:x∈X8 c d->_:=fun h=>Qg n (by omega) h1.tail h2.tail h
    grind
theorem Pl.add {a b}(h:Pl a)(k:Pl b):Pl (X8 a b):=⟨di _ (Zf _) h.q8 k.q8 h.dc k.dc,R3 h.q8 k.q8⟩
theorem Cp.add {d c n i m}{f g}(h:Cp d c n f)(k:Cp d i m g):Cp d (c+i) (n+m) (X8 f g):=by
 refine⟨h.pl.add k.pl,fun t e=> ?_,fun t e=> ?_,?_⟩
 ·rcases Qg _ (Zf _) h.pl.q8 k.pl.q8 e with h1|h1|⟨a,ha,b,hb,e1,e2,e3⟩
  ·exact h.Mu t h1
  ·exact k.Mu t h1
  ·rw[<-e1];exact h.Mu a ha
 ·rcases Qg _ (Zf _) h.pl.q8 k.pl.q8 e with h1|h1|⟨a,ha,b,hb,e1,e2,e3⟩
  ·obtain⟨z,j,l⟩:=h.cf t h1;grind
  ·obtain⟨z,j,l⟩:=k.cf t h1;grind
  ·obtain⟨z,j,l⟩:=h.cf a ha;obtain⟨y,o,p⟩:=k.cf b hb;exact⟨z+y,by grind,by omega⟩
 ·have:=UY _ f g (Zf _);have:=h.len;have:=k.len;omega
theorem Sq.int {z:Int}(h:z.natAbs<4294967296):Sq (z:Rat):=by
 refine Sq.of (k:=1) (by omega) ?_ ?_
 ·grind [Rat.num_intCast]
 grind [Rat.den_intCast]
theorem EK {d c n}{a}(h:Cp d c n a)(g:c<4294967296):Sz a:=fun t b=>by
 obtain⟨z,e,f⟩:=h.cf t b
 grind [Sq.int]
abbrev mm (a b:Nat):P':=[a,b,0,0,0,0,0,0]
def Mx (d:Nat)(m:P'):Prop:=∃a b,m=mm a b/\a+b<=d
theorem Mx.M3 {d}{m}(h:Mx d m):IH d m:=by
 obtain⟨a,b,rfl,h⟩:=h;exact⟨a,b,0,rfl,by omega⟩
theorem JB (d)(a b):Mx d (rC d a b):=by
 have:=Iw d a;have :e2 d a b<=d-e1 d a:=by unfold e2;have:=ZN b.natAbs (show 0<d-e1 d a+1 by omega);omega
 exact⟨_,_,rfl,by omega⟩
def G2 (d c n:Nat)(f:I'):Prop:=Cp d c n f/\∀t∈f,Mx d t.2
theorem G2.nil (d c n):G2 d c n []:=⟨Cp.nil d c n,fun _ h=>by cases h⟩
theorem G2.add {d c n b f}{g i}(h:G2 d c n g)(k:G2 d b f i):G2 d (c+b) (n+f) (X8 g i):=
 ⟨h.1.add k.1,fun t j=>by
  rcases WC _ (Zf _) h.1.pl.q8 k.1.pl.q8 j with⟨u,a,e⟩|⟨u,a,e⟩
  ·rw[<-e];exact h.2 u a
  ·rw[<-e];exact k.2 u a⟩
theorem G2.mono {d c n a b}{e}(h:G2 d c n e)(f:c<=a)(g:n<=b):G2 d a b e:=⟨h.1.mono (Zf _) f g,h.2⟩
theorem Ka {d}(g:d<=65535){m}(h:IH d m):XA m:=by
 obtain⟨a,b,c,rfl,h⟩:=h;refine⟨rfl,fun e f=> ?_⟩;simp only[Zk,ZQ,or_false]at f;omega
def ri (c:N'):Prop:=∃a0 a1 a2 a3 a4:Int,c=sZ a0 a1 a2 a3 a4/\(-128<=a0/\a0<=127)/\(-128<=a1/\a1<=127)/\(-128<=a2/\a2<=127)/\(-128<=a3/\a3<=127)
def Ta (R:PL):Prop:=∃rs,Sl R rs/\∀c∈rs,ri c
theorem nO {B}(f:Std B){d}(O:d<100):∀{rows},(∀c∈rows,ri c)->∀{r} {a} {c n},PQ r a->G2 d c n a->c+rows.length*3<4294967296->n+rows.length<100000->
  ∃p m,(XT B fun E _=>oV E d rows r p)/\PQ p m/\G2 d (c+rows.length*3) (n+rows.length) m
 |[],_,r,a,c,n,hr,hg,_,_=>⟨r,a,XT.of fun _ _=>.nil,hr,by simpa using hg⟩
 |row::rows,hrow,r,a,c,n,hr,hg,q,hn=>by
  obtain⟨h,i,j,Z,a4,rfl,-,v,w,b3⟩:=hrow row (Zc ..);have hz:=pC h;simp only[Zj,ZX,Yf]at q hn⊢;have G:=zV f v.1 v.2;have H:=zV f w.1 w.2;obtain⟨cz,I,l⟩:=OZ f (x:=eo h) (by unfold IB;omega);obtain⟨co,J,k⟩:=OZ f (x:=.ofNat 1) (by unfold IB;decide);have b:=JB d i j;have u:=Ka (show d<=65535 by omega) b.M3;obtain⟨V,W,X,Y,rfl⟩:=k.len;have Q:PQ (.Xl [.bool V::W::.bool X::Y::mo (rC d i j)]) [(((Int.ofNat 1:Int):Rat),rC d i j)]:=⟨_,.Xl,.cons (Vn.mk k u) .nil⟩;obtain⟨s,L,R⟩:=jk f l (Sq.int (by omega)) Q (fun t e=>by
   simp only[Zk,ZQ,or_false]at e;subst e;exact Sq.int (z:=1) (by decide)) (by simp)
  have g:G2 d 3 1 (if((eo h:Int):Rat)=0 then[]else X2 ((eo h:Int):Rat) [(((Int.ofNat 1:Int):Rat),rC d i j)]):=by
   split
   ·exact G2.nil _ _ _
   ·rename_i h0;have e1:X2 ((eo h:Int):Rat) [(((Int.ofNat 1:Int):Rat),rC d i j)]=[(((eo h:Int):Rat),rC d i j)]:=by
     simp only[X2,Zt,ZF]
     grind
    rw[e1];refine⟨⟨⟨⟨fun t e=> ?_,by simp⟩,fun t e=> ?_⟩,fun t e=> ?_,fun t e=> ?_,by simp⟩,fun t e=> ?_⟩<;>(simp only[Zk,ZQ,or_false]at e;subst e)
    ·exact h0
    ·exact b.M3.l8
    ·exact b.M3
    ·grind
    ·exact b
  have P:=hg.1.len;obtain⟨o,M,N⟩:=Si f hr R (EK hg.1 (by omega)) (EK g.1 (by omega)) (by omega) (by have:=g.1.len;omega);obtain⟨p,m,S,T,U⟩:=nO f O (fun c q=>hrow c (Za _ q)) (r:=.Xl o) ⟨_,.Xl,N⟩ (hg.add g) (by omega) (by omega);obtain⟨c1,c2,c3,c4,rfl⟩:=l.len;exact⟨p,m,(S.and (G.Xk.and (H.Xk.and (I.Xk.and (J.Xk.and (L.Xk.and M.Xk)))))).mono fun E K ⟨y,e1,e2,A,C,D,F⟩=>.cons e1 e2 A C D F y,T,U.mono (by omega) (by omega)⟩
theorem tS {B}(b:Std B){R}(v:Ta R){d tm}(o:d<100)(h:tm<1000):
  ∃r q,Xv B 34 [.agg [R],.one (La0 2),.one (La0 d),.one (La0 tm)] (.one r)/\PQ r q/\G2 d (tm*3) tm q:=by
 obtain⟨a,i,g⟩:=v;have h0:PQ (.Xl []) []:=⟨[],.Xl,.nil⟩;have p:(a.take tm).length<=tm:=by grind
 obtain⟨A,s,k,l,m⟩:=nO b o (rows:=a.take tm) (fun c w=>g c (List.mem_of_mem_take w)) h0 (G2.nil d 0 0) (by omega) (by omega);by_cases f:a.take tm=[]
 ·clear k l m;refine⟨.Xl [],[],Xv.of (b.Wa _ _ rfl) ((b.Xk.and (XT.ge 1)).mono fun E K ⟨e,u⟩=> ?_),h0,G2.nil _ _ _⟩;obtain⟨j,rfl⟩:∃j,K=j+1:=⟨K-1,by omega⟩;have x:tm=0\/a.length=0:=by
   grind
  by_cases n:0<a.length
  ·have t:¬0<tm:=by omega
   simp only[Xo,Xs,reduceIte,Nat.reduceEqDiff,Nat.reduceLeDiff,Nat.reduceAdd,Zw,x34,x34_2,Xb,i.len,n,t]
  ·simp only[Xo,Xs,reduceIte,Nat.reduceEqDiff,Nat.reduceLeDiff,Nat.reduceAdd,Zw,x34,x34_2,Xb,i.len,n]
 ·refine⟨A,s,Xv.of (b.Wa _ _ rfl) ((k.and (b.Xk.and (XT.ge (a.length+tm+4)))).mono fun E K ⟨e1,e,u⟩=> ?_),l,m.mono (by omega) (by omega)⟩;obtain⟨D,C,y,z⟩:=wJ (K:=K) e i o h (by omega) 27 e1 f rfl (by omega);simp only[Xo,Xs,reduceIte,Nat.reduceEqDiff,Nat.reduceLeDiff,Nat.reduceAdd,x34,y,z]
