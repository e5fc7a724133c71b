/- Polynomials out of raw numbers: lists. -/
import Derived.Test.YtidginchkjhobaaGreatIs
import Derived.Test.YtidginchkjhobaaGreatGrS
set_option maxHeartbeats 16000000
set_option maxRecDepth 100000
namespace Go.Proofs.YtidginchkjhobaaGreat
open Go.Ev Go.Num
theorem fu {B:Xs}(b:Std B){R:PL}(h:UD R):∃r a,Xx B 9 [.agg [R]] (.one r)/\PQ r a/\G2 1 6 2 a:=by
 obtain⟨r,a,e,f,g⟩:=oh b h (d:=1) (tm:=2) (by omega) (by omega);refine⟨r,a,Xx.of (b.Wa _ _ rfl) ((e.Xj.and b.Xj).mono fun E K ⟨e1,c⟩=> ?_),f,g⟩;simp only[Xm,Xq,reduceIte,Nat.reduceEqDiff,Nat.reduceLeDiff,Zt,x9,c,X5,e1]
inductive qb (E:Xa)(d tm:Nat):List (List PL)->List PL->Prop
 |nil:qb E d tm [] []
 |cons {R r:PL} {ls:List (List PL)} {rs:List PL} (h1:E.pure 34 [.agg [R],.one (.int .i64 (.ofNat 2)),.one (.int .i64 (.ofNat d)),.one (.int .i64 (.ofNat tm))]=some (.one r)) (h:qb E d tm ls rs):qb E d tm ([R]::ls) (r::rs)
theorem yE (a:List PL)(r:PL):pc (Xf a)++[[.p r]]=pc (Xf (a++[r])):=by simp[pc,Xf]
theorem BF {E:Xa}{K:Nat}(x:E.mode=md){L:PL}{a:List (List PL)}(q:Sl L a){d z g:Nat}(N:g<1000):∀(rest:List (List PL)) (m:List PL),qb E d z rest m->
  ∀(i k v:Nat) (o:List PL) (G:List Xz),(a.take g).drop i=rest->i+rest.length=(a.take g).length->o.length=i->rest.length<k->
  ∃b f s,Xb E K 0 [0,1,2,3,4,11,12] x33_1 k ⟨[(0,.one (.p L)),(1,.one (.p (.int .i64 (.ofNat 2)))),(2,.one (.p (.int .i64 (.ofNat d)))),(3,.one (.p (.int .i64 (.ofNat z)))),(4,.one (.p (.int .i64 (.ofNat g)))),(11,.one (.own 0 v 0 o.length)),(12,.one (.p (.int .i64 (.ofNat i))))],⟨false,v,1,pc (Xf o),false,33⟩::G⟩=
   some (.exit 0,⟨b,⟨false,s,1,pc (Xf (o++m)),false,33⟩::f⟩)/\Xh b 11=some (.one (.own 0 s 0 (o++m).length)):=by
 intro rest m h;induction h with
 |nil=>
  intro i k v o G _ w O B;obtain⟨k,rfl⟩:∃y,k=y+1:=⟨k-1,by omega⟩;simp only[Zu,Yk,ZO]at w;have :∃b f,Xb E K 0 [0,1,2,3,4,11,12] x33_1 (k+1) ⟨[(0,.one (.p L)),(1,.one (.p (.int .i64 (.ofNat 2)))),(2,.one (.p (.int .i64 (.ofNat d)))),(3,.one (.p (.int .i64 (.ofNat z)))),(4,.one (.p (.int .i64 (.ofNat g)))),(11,.one (.own 0 v 0 o.length)),(12,.one (.p (.int .i64 (.ofNat i))))],⟨false,v,1,pc (Xf o),false,33⟩::G⟩=
   some (.exit 0,⟨b,⟨false,v,1,pc (Xf o),false,33⟩::f⟩)/\Xh b 11=some (.one (.own 0 v 0 o.length)):=by
   by_cases c:i<a.length
   ·have J:¬i<g:=by omega
    apply AD
    ·rw[Xb];simp only[Xm,Xq,reduceIte,Nat.reduceEqDiff,x33_1,q.len,c,J];rfl
    ·simp only[Xm,reduceIte,Nat.reduceEqDiff]
   ·apply AD
    ·rw[Xb];simp only[Xm,Xq,reduceIte,Nat.reduceEqDiff,x33_1,q.len,c];rfl
    ·simp only[Xm,reduceIte,Nat.reduceEqDiff]
  obtain⟨b,f,n,t⟩:=this;exact⟨b,f,v,by simpa using n,by simpa using t⟩
 |@cons R r S m I h P=>
  intro i k v o G u w O B;obtain⟨k,rfl⟩:∃y,k=y+1:=⟨k-1,by omega⟩;simp only[Zi,ZO]at w B;have c:i<a.length:=by omega
  have e:i<g:=by omega
  obtain⟨A,C⟩:=Xi u;have j:a[i]? =some [R]:=by rw[Z7,if_pos e]at A;exact A
  have l:=fun(M:HF) (Q:IntKind)=>q.idx (h:=M) (k:=Q) (sz:=1) j rfl
  have D:Xe .i64 (.ofNat (i+1))=.ofNat (i+1):=wrap_i64 (by omega);have F:(o.length+1)*24<=lim:=by unfold lim;omega
  have H:o.length+1<=9223372036854775807:=by omega
  obtain⟨b,f,s,n,t⟩:=P (i+1) k (v+1) (o++[r]) (G++[⟨false,0,1,[[.p r]],false,33⟩]) C (by rw[ZO];omega) (by simp;omega) (by omega);refine⟨b,f,s,?_,by simpa using t⟩;rw[Zq,Z5,Zk,ZR]at n;rw[Xb];simp only[Xm,Vm,uE,Xq,Vg,reduceIte,Nat.reduceEqDiff,Nat.reduceLT,x33_1,q.len,c,e,l,x,X5,I,D,F,H,Wl,Xr,yE];exact n
theorem jt {B:Xs}(j:Std B){d g:Nat}(k:d<100)(b:g<1000):∀{ls:List (List PL)},(∀c∈ls,∃R,c=[R]/\UD R)->∃e a,(X1 B fun E _=>qb E d g ls e)/\Ut e a/\(∀f∈a,G2 d (g*3) g f)/\e.length=ls.length
 |[],_=>⟨[],[],X1.of fun _ _=>.nil,.nil,(fun _ h=>by cases h),rfl⟩
 |c::ls,h=>by
  obtain⟨R,rfl,q⟩:=h c (Ze ..);obtain⟨r,v,l,m,t⟩:=oh j q k b;obtain⟨e,a,n,o,u,p⟩:=jt j k b fun c s=>h c (Zc _ s)
  exact⟨r::e,v::a,(n.and l.Xj).mono fun E K ⟨e1,e2⟩=>.cons e2 e1,.cons m o,(fun f i=>by rcases Zj.1 i with rfl|i;exact t;exact u f i),by simp[p]⟩
def ep (L:PL):Prop:=∃ls,Sl L ls/\∀c∈ls,∃R,c=[R]/\UD R
theorem yX {B:Xs}(i:Std B){L:PL}(s:ep L){d tm mx:Nat}(u:d<100)(n:tm<1000)(l:mx<1000):
  ∃a b,Xx B 33 [.one L,.one (.int .i64 (.ofNat 2)),.one (.int .i64 (.ofNat d)),.one (.int .i64 (.ofNat tm)),.one (.int .i64 (.ofNat mx))] (.one (.Xp (Xf a)))/\Ut a b/\(∀f∈b,G2 d (tm*3) tm f)/\a.length<=mx:=by
 obtain⟨g,x,j⟩:=s;obtain⟨a,b,q,r,e,A⟩:=jt i u n (ls:=g.take mx) fun c t=>j c (YM t)
 have p:(g.take mx).length<=mx:=by rw[ZO];omega
 refine⟨a,b,Xx.of (i.Wa _ _ rfl) ((q.and (i.Xj.and (X1.ge (mx+1)))).mono fun E K ⟨e1,k,C⟩=> ?_),r,e,by omega⟩;obtain⟨z,y,D,o,e⟩:=BF (K:=K) k x l (g.take mx) a e1 0 K 0 [] [] (by simp) (by simp) rfl (by omega);have w:(pc (Xf a)).take a.length=pc (Xf a):=VA (Xf a) (by rw[Xr];exact Zh _);have v:=fun h=>VK 5 h (Xf a)
 have m:pc (Xf [])=[]:=rfl;rw[m]at o;simp only[ZF,Zu]at o e;simp only[Xm,Xq,reduceIte,Nat.reduceEqDiff,Nat.reduceLeDiff,Nat.reduceAdd,x33,o,e,w,v,Wl,Xr,Zh]
theorem vx {B:Xs}(c:Std B){L k:PL}(l:ep L):
  ∃b a,Xx B 8 [.agg [L,k]] (.one (.Xp (Xf b)))/\Ut b a/\(∀f∈a,G2 2 9 3 f)/\b.length<=3:=by
 obtain⟨b,a,g,h,i,j⟩:=yX c l (d:=2) (tm:=3) (mx:=3) (by omega) (by omega) (by omega);refine⟨b,a,Xx.of (c.Wa _ _ rfl) ((g.Xj.and c.Xj).mono fun E K ⟨e1,e⟩=> ?_),h,i,j⟩;simp only[Xm,Xq,reduceIte,Nat.reduceEqDiff,Nat.reduceLeDiff,Nat.reduceAdd,Zt,x8,e,X5,e1]
abbrev Ge (lo L:PL)(v n i:Nat):List (Nat×DV):=[(0,.one (.p lo)),(4,.one (.ptr 0 0 0 0)),(5,.one (.ptr 1 0 0 0)),(7,.one (.p (.bool true))),(8,.one (.p L)),(9,.one (.own 2 v 0 n)),(10,.one (.p (.int .i64 (.ofNat i))))]
abbrev xB (L:PL)(k:Nat):Xz:=⟨false,0,2,[[.p L,.p (.int .u8 (.ofNat k))]],false,24⟩
abbrev sB (a b c:PL)(t:Nat):Xz:=⟨false,0,3,[[.p a,.p b,.p c]],false,t⟩
theorem C7 {k:Nat}(h:k<256):U8 .u8 (.ofNat k) (.ofNat 4)=some (.p (.int .u8 (.ofNat (k%4)))):=rfl
theorem BI {E:Xa}{K n k:Nat}(g:E.mode=md){lo L X a b c j l m:PL}{ty:Nat}(t:k<256)(q:E.pure 9 [.agg [a]]=some (.one j))(r:E.pure 9 [.agg [b]]=some (.one l))(s:E.pure 9 [.agg [c]]=some (.one m)):
  ∃d o v,Xb E K 0 [0,4,5,7,8,9,10] x5_1 (n+5) ⟨Ge lo L 0 0 0,xB X k::sB a b c ty::Bx 0 []::[]⟩=some (.exit 0,⟨d,xB X k::sB a b c ty::Bx v ([j,l,m].take (k%4))::o⟩)/\
   Xh d 0=some (.one (.p lo))/\Xh d 7=some (.one (.p (.bool true)))/\Xh d 8=some (.one (.p L))/\Xh d 9=some (.one (.own 2 v 0 (k%4))):=by
 have f:∀{x:Nat},x<4->Xe .i64 (.ofNat x)=.ofNat x:=fun h=>wrap_i64 (by omega)
 have H:k%4<4:=ZY _ (by decide);have u:k%4=0\/k%4=1\/k%4=2\/k%4=3:=by omega
 have i:=C7 t;have w:(1:Nat)*24<=lim:=by decide
 have A:(2:Nat)*24<=lim:=by decide
 have B:(3:Nat)*24<=lim:=by decide
 have C:pc (Xf [])=[]:=rfl;have D:∀x:PL,pc (Xf [x])=[[.p x]]:=fun _=>rfl
 have F:∀x y:PL,pc (Xf [x,y])=[[.p x],[.p y]]:=fun _ _=>rfl
 have G:∀x y z:PL,pc (Xf [x,y,z])=[[.p x],[.p y],[.p z]]:=fun _ _ _=>rfl
 rcases u with e|e|e|e<;>rw[e]at i<;>rw[e]
 all_goals
  simp only[List.take_zero,List.take_succ_cons,C,D,F,G,Bx];apply FC
  ·simp(decide:=true)only[Xb,Xm,Xq,Vg,Vm,uE,reduceIte,Nat.reduceEqDiff,Nat.reduceLeDiff,Nat.reduceLT,Nat.reduceAdd,x5_1,g,X5,i,f (show 0<4 by decide),f (show 1<4 by decide),f (show 2<4 by decide),f (show 3<4 by decide),q,r,s,w,A,B,ZI,ZF,Zi,Zu,Z8,Nat.reduceMul,Yb,List.drop_succ_cons,List.take_succ_cons,List.take_zero,Zr,ZE];rfl
  ·simp only[Xm,reduceIte,Nat.reduceEqDiff,and_self]
structure Fa (E:Xa)(lo L T:PL)(n q:Nat):Prop where
 res:(E.pure 22 [.one lo]=some (.one (.bool false))/\E.pure 19 [.one L,.one lo]=some (.XZ [.one .XC,.one (.int .i64 (.ofNat 50))])/\E.pure 25 [.one T,.one L,.one lo]=some (.XZ [.one .XC,.one (.int .i64 (.ofNat 50))]))\/
  (E.pure 22 [.one lo]=some (.one (.bool true))/\(∃os:List PL,os.length<n/\E.pure 23 [.one L]=some (.one (.Xp (Xf os))))/\E.pure 19 [.one L,.one lo]=some (.XZ [.one .XC,.one (.int .i64 (.ofNat 120))])/\E.pure 25 [.one T,.one L,.one lo]=some (.XZ [.one .XC,.one (.int .i64 (.ofNat 120))]))\/
  (E.pure 22 [.one lo]=some (.one (.bool true))/\(∃os:List PL,¬os.length<n/\E.pure 23 [.one L]=some (.one (.Xp (Xf os))))/\E.pure 24 [.one L,.one lo]=some (.one (.bool false))/\E.pure 19 [.one L,.one lo]=some (.XZ [.one .XC,.one (.int .i64 (.ofNat 120))])/\E.pure 25 [.one T,.one L,.one lo]=some (.XZ [.one .XC,.one (.int .i64 (.ofNat 120))]))\/
  (E.pure 22 [.one lo]=some (.one (.bool true))/\(∃os:List PL,¬os.length<n/\E.pure 23 [.one L]=some (.one (.Xp (Xf os))))/\E.pure 24 [.one L,.one lo]=some (.one (.bool true))/\∃M ls,Sl M (Xf ls)/\E.pure 19 [.one L,.one lo]=some (.XZ [.one M,.one (.int .i64 (.ofNat 0))])/\
   ((E.pure 14 [.one T,.one L]=some (.one (.bool false))/\E.pure 25 [.one T,.one L,.one lo]=some (.XZ [.one .XC,.one (.int .i64 (.ofNat 1))]))\/
    (E.pure 14 [.one T,.one L]=some (.one (.bool true))/\∃cs:List PL,cs.length=ls.length/\E.pure 25 [.one T,.one L,.one lo]=some (.XZ [.one (.Xp (Xf cs)),.one (.int .i64 (.ofNat 0))]))))
theorem filter_all {fs:List (List Qm)}:(∀f∈fs,f.length≠0)\/(fs.filter fun f=>decide (f.length≠0)).length<fs.length:=by
 induction fs with
 |nil=>exact .inl fun _ h=>by cases h
 |cons f fs a=>
  by_cases h:f.length=0
  ·right;rw[Yy (by simp[h]),Zi];exact Nat.lt_succ_of_le (List.length_filter_le ..)
  ·rcases a with a|a
   ·exact .inl fun g b=>by
     rcases Zj.1 b with rfl|b
     ·exact h
     ·exact a g b
   ·right;rw[YE (by simp[h]),Zi,Zi];omega
theorem filter_none {a:List (List Qm)}(h:∀f∈a,f.length≠0):(a.filter fun f=>decide (f.length≠0)).length=a.length:=by
 rw[List.filter_eq_self.2 fun f b=>by simpa using h f b]
theorem any_zero (b:List (List Qm)):(b.map fun f=>decide (f.length=0)).any id=true↔¬∀f∈b,f.length≠0:=by
 induction b with
 |nil=>simp
 |cons f b c=>
  rw[Zr,List.any_cons,Bool.or_eq_true,c];constructor
  ·rintro (h|h) k
   ·exact k f (Ze ..) (by simpa using h)
   ·exact h fun g a=>k g (Zc _ a)
  ·intro h;by_cases h0:f.length=0
   ·exact .inl (by simpa using h0)
   ·exact .inr fun k=>h fun g a=>by
     rcases Zj.1 a with rfl|a
     ·exact h0
     ·exact k g a
theorem vI {o:List (List Int)}(c:∀r∈o,r.length=8)(h:TH o=true):∃w,(∀V,V<=64->(allM w V).length<=60)/\∀a:List (List Qm),(∀f∈a,∀u∈f,AH 2 u.2)->On o w a:=by
 obtain⟨g,e,j,k⟩:=uI c h;obtain⟨w,b,i⟩:=Dk j k;refine⟨w,?_,fun a d=>vF g e b i d⟩;have key:∀w,w=Et\/w=Es\/w=Eu->∀V,V<65->(allM w V).length<=60:=by
  rintro w (rfl|rfl|rfl)<;>decide+kernel
 exact fun V l=>key w b V (by omega)
theorem ze {B:Xs}(hS:iH B)(hB:pX B){R:PL}{o:List (List Int)}(H:SG R o)(h8:∀r∈o,r.length=8)(a7:o.length<=30){j:List PL}{fs:List (List Qm)}(d:Ut j fs)(hg:∀f∈fs,G2 2 9 3 f)(hn:j.length<=3){u:List PL}{vs:List (List Qm)}(F:Ut u vs)(gv:∀v∈vs,G2 1 6 2 v)(a9:u.length<=3):
  X1 B fun E _=>Fa E R (.Xp (Xf j)) (.Xp (Xf u)) j.length u.length:=by
 have k:=hS.toStd;have m:=nC k H h8 (by omega);have g:=uZ k H h8 (by omega);have a6:=d.length;have a8:=F.length;cases q:TH o with
 |false=>
  rw[q]at m g;have l:=kI k (G:=.Xp (Xf j)) m;have z:=P6 k (S:=.Xp (Xf u)) (by decide) l;exact(g.Xj.and (l.Xj.and z.Xj)).mono fun E K ⟨e1,e2,y⟩=>⟨.inl ⟨e1,e2,y⟩⟩
 |true=>
  rw[q]at m g;obtain⟨w,T,ow⟩:=vI h8 q;have W:=ow fs fun f s=>(hg f s).2
  obtain⟨Z,Y,n2⟩:=nW k (L:=.Xp (Xf j)) .Xp (by omega) d;have P:=lU k (L:=.Xp (Xf j)) .Xp d (by omega);rcases filter_all (fs:=fs)with hne|hlt
  ·have a3:(fs.map fun f=>decide (f.length=0)).any id=false:=by
    cases e:(fs.map fun f=>decide (f.length=0)).any id with
    |false=>rfl
    |true=>exact absurd hne ((any_zero fs).1 e)
   rw[a3]at P;rw[filter_none hne]at n2;have D:∀f∈fs,Sa 2 9 3 f:=fun f s=>(hg f s).1
   have c:∀f∈fs,Sa 3 12 4 f:=fun f s=>(D f s).mono (by omega) (by omega) (by omega)
   have ne:∀f∈fs,f≠[]:=fun f s e=>hne f s (by rw[e];rfl)
   obtain⟨X,i1,i2⟩:=Cb W (a:=12) (n:=4) (by omega) (by omega) (by omega) c;obtain⟨b2,j1,j2⟩:=yj k W H g c (L:=.Xp (Xf j)) .Xp d (by omega);obtain rfl:X=b2:=by
    have :X=true↔b2=true:=i2.trans j2.symm;cases X<;>cases b2<;>simp_all
   have a5:(Ws o fs 0).length<=fs.length:=by
    have key:∀(fs:List (List Qm)) (i:Nat),(Ws o fs i).length<=fs.length:=by
     intro fs;induction fs with
     |nil=>intro i;exact Zh _
     |cons f fs ih=>
      intro i;have:=ih (i+1);unfold Ws;split
      ·simp only[Zi];omega
      ·simp only[Zi];omega
    exact key fs 0
   have hI:=lg hB H W.o8 W.ol m (L:=.Xp (Xf j)) .Xp d (fun f s=>⟨Qz (c f s).pl,by have:=(c f s).len;omega⟩) (by omega) (by omega) i1;cases X with
   |false=>
    have l:=kJ k m P hI;have z:=P6 k (S:=.Xp (Xf u)) (by decide) l;exact(g.Xj.and (Y.Xj.and (j1.Xj.and (l.Xj.and z.Xj)))).mono fun E K ⟨e1,e2,y,C,I⟩=>⟨.inr (.inr (.inl ⟨e1,⟨Z,by omega,e2⟩,y,C,I⟩))⟩
   |true=>
    obtain⟨A,p1,p2⟩:=xP hB.todJ W H m D ne (by omega) T (G:=.Xp (Xf j)) .Xp d;obtain⟨M,sM,p3⟩:=eX k (G:=.Xp (Xf j)) .Xp (by omega) p1;have l:=nh k m P hI p3;obtain⟨b,q1,q2,q3⟩:=BJ hS (Q:=.Xp (Xf u)) (L:=.Xp (Xf j)) .Xp .Xp F d (by omega) (fun v m=>(gv v m).1.mono (by omega) (by omega) (by omega)) c;cases b with
    |false=>
     have z:=oW k l q1;exact(g.Xj.and (Y.Xj.and (j1.Xj.and (l.Xj.and (q2.Xj.and z.Xj))))).mono fun E K ⟨e1,e2,y,C,I,e6⟩=>⟨.inr (.inr (.inr ⟨e1,⟨Z,by omega,e2⟩,y,M,_,sM,C,.inl ⟨I,e6⟩⟩))⟩
    |true=>
     obtain⟨r,a0,r1⟩:=oV hS W H D ne (by omega) T (G:=.Xp (Xf j)) (V:=.Xp (Xf u)) .Xp d p2 .Xp F (q3 rfl) fun v m=>(gv v m).1
     have O:A.length=(oi A).length:=by simp
     rw[O]at r1;obtain⟨N,hN⟩:=r1;have J:=(hN N N (Zh _) (Zh _)).len;rw[Ys]at J;have a2:(oi A).length<1000:=by
      obtain⟨N',a1⟩:=p1;have e:=a1 N' N' (Zh _) (Zh _);have key:∀{E:Xa} {G R:PL} {n i:Nat} {U:List PL} {x:List (List PL)},ND E G R n i U x->x.length<=U.length*U.length:=by
       intro E G R n i U x h;induction h with
       |nil=>simp
       |@cons i p U x1 x2 h t ih=>
        have:=h.len;rw[Zk,Zi,this,ZG,Nat.mul_add];omega
      have h1:=key e;have h2:j.length*j.length<=3*3:=ZU hn hn;rw[<-O];omega
     have z:=rQ k (S:=.Xp (Xf u)) (G:=.Xp (Xf j)) (L:=M) (ls:=oi A) .Xp sM a2 l q1 ⟨N,hN⟩;exact(g.Xj.and (Y.Xj.and (j1.Xj.and (l.Xj.and (q2.Xj.and z.Xj))))).mono fun E K ⟨e1,e2,y,C,I,e6⟩=>⟨.inr (.inr (.inr ⟨e1,⟨Z,by omega,e2⟩,y,M,_,sM,C,.inr ⟨I,a0,J,e6⟩⟩))⟩
  ·have a4:(fs.map fun f=>decide (f.length=0)).any id=true:=(any_zero fs).2 fun h=>by
    rw[filter_none h]at hlt;omega
   rw[a4]at P;have l:=ik k m P;have z:=P6 k (S:=.Xp (Xf u)) (by decide) l;exact(g.Xj.and (Y.Xj.and (l.Xj.and z.Xj))).mono fun E K ⟨e1,e2,y,C⟩=>⟨.inr (.inl ⟨e1,⟨Z,by omega,e2⟩,y,C⟩)⟩
theorem zc {E:Xa}{K k:Nat}(e:E.mode=md){lo X a b c C D F:PL}{o:List (List Int)}(Y:SG lo o)(W:o.length<=30){G:List PL}(V:k<256)(x:E.pure 7 []=some (.one (.bool true)))(A:E.pure 8 [.agg [X,.int .u8 (.ofNat k)]]=some (.one (.Xp (Xf G))))
  (R:E.pure 9 [.agg [a]]=some (.one C)) (S:E.pure 9 [.agg [b]]=some (.one D)) (T:E.pure 9 [.agg [c]]=some (.one F)) (h:Fa E lo (.Xp (Xf G)) (.Xp (Xf ([C,D,F].take (k%4)))) G.length ([C,D,F].take (k%4)).length):
  Ug E (K+5) x5 [.one lo,.agg [X,.int .u8 (.ofNat k)],.agg [a,b,c]]=some (.one (.bool true)):=by
 obtain⟨T',Z,v,j,s,t,u,w⟩:=BI (E:=E) (K:=K+5) (n:=K) e (lo:=lo) (L:=.Xp (Xf G)) (X:=X) (ty:=28) V R S T;have U:([C,D,F].take (k%4)).length=k%4:=by
  have :k%4<4:=ZY _ (by decide);rw[ZO];simp only[Zi,Zu];omega
 generalize [C,D,F].take (k%4)=TT at j U h;have B:(pc (Xf TT)).take (k%4)=pc (Xf TT):=VA (Xf TT) (by rw[Xr];omega);have z:=fun h=>VK 5 h (Xf TT)
 have g:k%4<=TT.length:=by omega
 have d:=Y.len;rw[ZP]at d;have f:¬30<o.length:=by omega
 have O:=(Sl.Xp (es:=Xf G)).len;rw[Xr]at O;have P:pc (Xf [])=[]:=rfl;have i:∀l:List PL,Qn [.one (.p (.Xp (Xf l)))]=some ⟨.one (.p (.int .i64 (.ofNat l.length))),[],[],[]⟩:=fun l=>by
  have:=(Sl.Xp (es:=Xf l)).len;rw[Xr]at this;exact this
 simp only[Ge,xB,sB,Bx,P]at j;rcases h.res with⟨e1,e2,r⟩|⟨e1,⟨l,m,q⟩,e2,r⟩|⟨e1,⟨l,m,q⟩,H,e2,r⟩|⟨e1,⟨l,m,q⟩,H,M,ls,Q,e2,⟨I,J⟩|⟨I,cs,N,J⟩⟩
 ·simp(decide:=true)only[Xm,Xq,Vg,Vm,reduceIte,Nat.reduceEqDiff,Nat.reduceLeDiff,Nat.reduceLT,Nat.reduceAdd,x5,e,X5,x,A,d,f,j,s,t,u,w,B,z,g,Wl,Xr,e1,e2,r,Zr,ZE]
 ·simp(decide:=true)only[Xm,Xq,Vg,Vm,reduceIte,Nat.reduceEqDiff,Nat.reduceLeDiff,Nat.reduceLT,Nat.reduceAdd,x5,e,X5,x,A,d,f,j,s,t,u,w,B,z,g,Wl,Xr,e1,e2,r,m,q,i,Zr,ZE]
 ·simp(decide:=true)only[Xm,Xq,Vg,Vm,reduceIte,Nat.reduceEqDiff,Nat.reduceLeDiff,Nat.reduceLT,Nat.reduceAdd,x5,e,X5,x,A,d,f,j,s,t,u,w,B,z,g,Wl,Xr,e1,e2,r,H,m,q,i,Zr,ZE]
 ·have y:=Q.len;rw[Xr]at y;simp(decide:=true)only[Xm,Xq,Vg,Vm,reduceIte,Nat.reduceEqDiff,Nat.reduceLeDiff,Nat.reduceLT,Nat.reduceAdd,x5,e,X5,x,A,d,f,j,s,t,u,w,B,z,g,Wl,Xr,e1,e2,H,I,J,m,q,i,y,Zr,ZE]
 ·have y:=Q.len;rw[Xr]at y;simp(decide:=true)only[Xm,Xq,Vg,Vm,reduceIte,Nat.reduceEqDiff,Nat.reduceLeDiff,Nat.reduceLT,Nat.reduceAdd,x5,e,X5,x,A,d,f,j,s,t,u,w,B,z,g,Wl,Xr,e1,e2,H,I,J,m,q,i,y,N,rH,Zr,ZE]
theorem vZ {E:Xa}{K:Nat}(e:E.mode=md){g X a b c n:PL}{o:List (List Int)}(i:SG g o)(f:30<o.length)(h:E.pure 7 []=some (.one (.bool true))):
  Ug E K x5 [.one g,.agg [X,n],.agg [a,b,c]]=some (.one (.bool true)):=by
 have d:=i.len;rw[ZP]at d;simp(decide:=true)only[Xm,Xq,Vg,Vm,reduceIte,Nat.reduceEqDiff,Nat.reduceLeDiff,Nat.reduceLT,Nat.reduceAdd,x5,e,X5,h,d,f,Zr,ZE]
theorem zd {B:Xs}(l:iH B)(G:pX B)(j:Xx B 7 [] (.one (.bool true))){m L a b c:PL}{o:List (List Int)}(i:SG m o)(F:∀r∈o,r.length=8)(H:ep L){k:Nat}(N:k<256)(I:UD a)(J:UD b)(M:UD c):
  Xx B 5 [.one m,.agg [L,.int .u8 (.ofNat k)],.agg [a,b,c]] (.one (.bool true)):=by
 have d:=l.toStd;by_cases f:o.length<=30
 ·obtain⟨rs,fs,P,Q,R,S⟩:=vx d (k:=.int .u8 (.ofNat k)) H;obtain⟨q,u,U,h,V⟩:=fu d I;obtain⟨s,w,W,p,X⟩:=fu d J;obtain⟨t,x,Y,Z,q9⟩:=fu d M;have T:Ut [q,s,t] [u,w,x]:=.cons h (.cons p (.cons Z .nil));have g:∀n,Ut ([q,s,t].take n) ([u,w,x].take n):=fun n=>by
   match n with
   |0=>exact .nil
   |1=>exact .cons h .nil
   |2=>exact .cons h (.cons p .nil)
   |n+3=>simp only[List.take_succ_cons,List.take_nil];exact T
  have ev:=ze l G i F f Q R S (g (k%4)) (fun v O=>by
   have:=YM O;simp only[Zj,Z0,or_false]at this;rcases this with rfl|rfl|rfl
   ·exact V
   ·exact X
   ·exact q9) (by rw[ZO];simp only[Zi,Zu];omega)
  refine Xx.of (d.Wa _ _ rfl) ((ev.and (j.Xj.and (P.Xj.and (U.Xj.and (W.Xj.and (Y.Xj.and (d.Xj.and (X1.ge 5)))))))).mono fun E K ⟨z,e1,e2,A,C,D,e,hK⟩=> ?_);obtain⟨K,rfl⟩:∃y,K=y+5:=⟨K-5,by omega⟩;exact zc e i f N e1 e2 A C D z
 ·exact Xx.of (d.Wa _ _ rfl) ((j.Xj.and d.Xj).mono fun E K ⟨e1,e⟩=>vZ e i (by omega) e1)
end Go.Proofs.YtidginchkjhobaaGreat
