/- Polynomials of the reference: Times. -/
import Derived.Test.YtidginchkjhobaaGreatMon
set_option maxHeartbeats 16000000
set_option maxRecDepth 100000
namespace Go.Ev
open Go.Proofs.YtidginchkjhobaaGreat
def pc (es:Z'):K':=es.map (·.map .p)
theorem WB (a):(pc a).length=a.length:=by simp[pc]
theorem VR (a)(x y z u)(m):pc a++[.p x::.p y::.p z::.p u::Xu m]=pc (a++[x::y::z::u::mo m]):=by
 simp[pc,Xu,mo]
theorem Wc (n)(h):∀m,Xw (XG n h) (Xu m)=some (mo m)
 |[]=>rfl
 |e::m=>by
  have:=Wc n h m;simp only[Xu,mo]at this;simp only[Xu,mo,Zt,Xw,oa,this]
theorem Wg (n)(h):∀m,(Xu m).flatMap (Vt n h)=[]
 |[]=>rfl
 |e::m=>by
  have:=Wg n h m;simp only[Xu]at this;simp only[Xu,Zt,List.flatMap_cons,nY,this,ZJ]
theorem Gz (m):(mo m).all PL.scalar=true:=by simp[mo,PL.scalar]
inductive lN (E:Xa)(c:N')(m:P'):Z'->Z'->Prop
 |nil:lN E c m [] []
 |cons {x y z u:PL} {k:P'} {r1 r2 r3 r4:PL} {es outs:Z'} (hk:XA k) (hs:XA (Xg m k)) (h1:E.pure 90 [.agg (mo m),.agg (mo k)]=some (.Wd [.agg (mo (Xg m k)),.one (La0 0)]))
   (h2:E.pure 91 [.agg c,.agg [x,y,z,u]]=some (.agg [r1,r2,r3,r4])) (h:lN E c m es outs):lN E c m ((x::y::z::u::mo k)::es) ((r1::r2::r3::r4::mo (Xg m k))::outs)
theorem CG {E}{K}{l}{f g c3 c4}{m}(H:m.length=8)(I:E.mode=md){a}(M:Sl l a)(hl:a.length<1000000):∀rest b,lN E [f,g,c3,c4] m rest b->
  ∀i k v o G,a.drop i=rest->i+rest.length=a.length->o.length=i->rest.length<k->
  ∃c s r,Xb E K 0 [2,3,4,8,9] x48_1 k ⟨[(2,La4 l),(3,.one (.ptr 0 0 0 0)),(4,.one (.ptr 1 0 0 0)),(8,.one (.own 2 v 0 o.length)),(9,La1 i)],⟨false,0,4,[[.p f,.p g,.p c3,.p c4]],false,48⟩::⟨false,0,8,[Xu m],false,73⟩::⟨false,v,12,pc o,false,75⟩::G⟩=
    some (.exit 0,⟨c,⟨false,0,4,[[.p f,.p g,.p c3,.p c4]],false,48⟩::⟨false,0,8,[Xu m],false,73⟩::⟨false,r,12,pc (o++b),false,75⟩::s⟩)/\Xi c 8=some (.one (.own 2 r 0 (o++b).length)):=by
 intro rest b h;induction h with
 |nil=>
  intro i k v o G w B Y C;rcases k with _|k;omega;have :∃c,Xb E K 0 [2,3,4,8,9] x48_1 (k+1) ⟨[(2,La4 l),(3,.one (.ptr 0 0 0 0)),(4,.one (.ptr 1 0 0 0)),(8,.one (.own 2 v 0 o.length)),(9,La1 i)],⟨false,0,4,[[.p f,.p g,.p c3,.p c4]],false,48⟩::⟨false,0,8,[Xu m],false,73⟩::⟨false,v,12,pc o,false,75⟩::G⟩=
    some (.exit 0,⟨c,⟨false,0,4,[[.p f,.p g,.p c3,.p c4]],false,48⟩::⟨false,0,8,[Xu m],false,73⟩::⟨false,v,12,pc o,false,75⟩::G⟩)/\Xi c 8=some (.one (.own 2 v 0 o.length)):=by
   have e:¬i<a.length:=by simp at B;omega
   apply VW
   ·rw[Xb];simp only[Xo,Xs,reduceIte,Nat.reduceEqDiff,x48_1,M.len,e];rfl
   ·simp only[Xo,reduceIte,Nat.reduceEqDiff]
  obtain⟨c,q,t⟩:=this;exact⟨c,G,v,by simpa using q,by simpa using t⟩
 |@cons x y z u d N O P Q R b C Z V W h ih=>
  intro i k v o G w B Y F;rcases k with _|k;omega;simp only[Zj]at B F;have e:i<a.length:=by omega
  have j:a[i]? =some (x::y::z::u::mo d):=by
   have:=congrArg (·[0]?) w;simpa using this
  have n:=fun(X:HF) (kd:IntKind)=>M.idx (h:=X) (k:=kd) (sz:=12) j (by simp[XI,C.1])
  have A:a.drop (i+1)=R:=by
   have:=congrArg (List.drop 1) w;simpa[List.drop_drop]using this
  have S:Xd .i64 (.ofNat (i+1))=.ofNat (i+1):=wrap_i64 (by omega);have T:(o.length+1)*128<=lim:=by unfold lim;omega
  have U:o.length+1<=9223372036854775807:=by omega
  have D:=C.1;have J:=Z.1;have t1:(Xu m).take 8=Xu m:=Ze (by rw[Xc];omega);have t2:(Xu d).take 8=Xu d:=Ze (by rw[Xc];omega);have t3:(Xu (Xg m d)).take 8=Xu (Xg m d):=Ze (by rw[Xc];omega);have t4:(Xu (Xg m d)).drop 8=[]:=Zo (by rw[Xc];omega);obtain⟨c,s,r,q,t⟩:=ih (i+1) k (v+1) (o++[N::O::P::Q::mo (Xg m d)]) (G++[⟨false,0,8,[Xu (Xg m d)],false,73⟩,⟨false,0,12,[.p N::.p O::.p P::.p Q::Xu (Xg m d)],false,75⟩]) A (by omega) (by simp;omega) (by omega);refine⟨c,s,r,?_,by simpa using t⟩;rw[Xb];rw[Zp,ZW,Zn,ZK]at q;simp only[Xo,Xs,VD,reduceIte,Nat.reduceEqDiff,Nat.reduceLeDiff,Nat.reduceLT,Nat.reduceAdd,x48_1,M.len,e,n,Wj,Xc,XI,D,J,H,t1,t2,t3,Wc,Wg,I,X3,V,W,S,T,U,WB,VR,Gz];exact q
theorem zn (n)(h):∀a,Xw (XG n h) (a.map DL.p)=some a
 |[]=>rfl
 |c::a=>by simp only[Zt,Xw,oa,zn n h a]
theorem Vb (n)(h):∀a,Xw (Xw (XG n h)) (pc a)=some a
 |[]=>rfl
 |c::a=>by
  have:=Vb n h a;simp only[pc]at this;simp only[pc,Zt,Xw,zn,this]
theorem zi (n:Nat)(h:HF):∀(a:N'),(a.map DL.p).flatMap (Vt n h)=[]
 |[]=>rfl
 |c::a=>by simp only[Zt,List.flatMap_cons,nY,zi n h a,ZJ]
theorem Nl (n:Nat)(h:HF):∀(a:Z'),(pc a).flatMap (fun c=>c.flatMap (Vt n h))=[]
 |[]=>rfl
 |c::a=>by
  have:=Nl n h a;simp only[pc]at this;simp only[pc,Zt,List.flatMap_cons,zi,this,ZJ]
theorem WT (a){n}(h:a.length<=n):(pc a).take n=pc a:=Ze (by rw[WB];exact h)
def zM:P':=[0,0,0,0,0,0,0,0]
theorem Ic:XA zM:=⟨rfl,by decide⟩
theorem Qk {m}(h:m.length=8):Xg zM m=m:=by
 obtain⟨a,b,c,d,e,f,g,i,rfl⟩:=SO h;simp[Xg,zM]
inductive QH (E:Xa):Z'->Z'->Z'->Prop
 |nil:QH E [] [] []
 |Io {x y z u:PL} {m:P'} {ps os:Z'} (hm:XA m) (h:QH E ps [] os):QH E ((x::y::z::u::mo m)::ps) [] ((x::y::z::u::mo m)::os)
 |Dj {x y z u:PL} {m:P'} {qs os:Z'} (hm:XA m) (h:QH E [] qs os):QH E [] ((x::y::z::u::mo m)::qs) ((x::y::z::u::mo m)::os)
 |Ip {x y z u x2 y2 z2 u2:PL} {m n:P'} {ps qs os:Z'} (hm:XA m) (hn:XA n) (hc:E.pure 35 [.agg (mo m),.agg (mo n)]=some (.one (La0 1))) (h:QH E ps ((x2::y2::z2::u2::mo n)::qs) os):
   QH E ((x::y::z::u::mo m)::ps) ((x2::y2::z2::u2::mo n)::qs) ((x::y::z::u::mo m)::os)
 |Dk {x y z u x2 y2 z2 u2:PL} {m n:P'} {ps qs os:Z'} (hm:XA m) (hn:XA n) (hc:E.pure 35 [.agg (mo m),.agg (mo n)]=some (.one (.int .i64 (.negSucc 0)))) (h:QH E ((x::y::z::u::mo m)::ps) qs os):
   QH E ((x::y::z::u::mo m)::ps) ((x2::y2::z2::u2::mo n)::qs) ((x2::y2::z2::u2::mo n)::os)
 |zero {x y z u x2 y2 z2 u2 r1 r2 r3 r4:PL} {m n:P'} {ps qs os:Z'} (hm:XA m) (hn:XA n) (hc:E.pure 35 [.agg (mo m),.agg (mo n)]=some (.one (La0 0)))
   (ha:E.pure 36 [.agg [x,y,z,u],.agg [x2,y2,z2,u2]]=some (.agg [r1,r2,r3,r4])) (hs:E.pure 37 [.agg [r1,r2,r3,r4]]=some (.one (La0 0))) (h:QH E ps qs os):
   QH E ((x::y::z::u::mo m)::ps) ((x2::y2::z2::u2::mo n)::qs) os
 |both {x y z u x2 y2 z2 u2 r1 r2 r3 r4:PL} {m n:P'} {s:Int} {ps qs os:Z'} (hm:XA m) (hn:XA n) (hc:E.pure 35 [.agg (mo m),.agg (mo n)]=some (.one (La0 0)))
   (ha:E.pure 36 [.agg [x,y,z,u],.agg [x2,y2,z2,u2]]=some (.agg [r1,r2,r3,r4])) (hs:E.pure 37 [.agg [r1,r2,r3,r4]]=some (.one (.int .i64 s))) (h0:Nr s (.ofNat 0)=false) (h:QH E ps qs os):
   QH E ((x::y::z::u::mo m)::ps) ((x2::y2::z2::u2::mo n)::qs) ((r1::r2::r3::r4::mo m)::os)
theorem Xh {a:Type}{l r:List a}{i:Nat}{c:a}(h:l.drop i=c::r):l[i]? =some c/\l.drop (i+1)=r:=by
 have b:=congrArg (·[0]?) h;have d:=congrArg (List.drop 1) h;exact⟨by simpa using b,by simpa[List.drop_drop]using d⟩
theorem Ki {E:Xa}{K:Nat}{lp lq:PL}(J:E.mode=md){a b:Z'}(N:Sl lp a)(O:Sl lq b)(a0:a.length<1000000)(a1:b.length<1000000):∀(U V w:Z'),QH E U V w->
  ∀(i j k v:Nat) (o:Z') (G:V'),a.drop i=U->b.drop j=V->i+U.length=a.length->j+V.length=b.length->o.length<=i+j->U.length+V.length<k->
  ∃c B A,Xb E K 0 [0,1,5,6,7] x10_1 k ⟨[(0,La4 lp),(1,La4 lq),(5,.one (.own 0 v 0 o.length)),(6,La1 i),(7,La1 j)],⟨false,v,12,pc o,false,75⟩::G⟩=some (.exit 0,⟨c,⟨false,A,12,pc (o++w),false,75⟩::B⟩)/\Xi c 5=some (.one (.own 0 A 0 (o++w).length)):=by
 intro U V w h;induction h with
 |nil=>
  intro i j k v o G D F H I ho M;rcases k with _|k;omega;have h1:¬i<a.length:=by simp at H;omega
  have h2:¬j<b.length:=by simp at I;omega
  have :∃c,Xb E K 0 [0,1,5,6,7] x10_1 (k+1) ⟨[(0,La4 lp),(1,La4 lq),(5,.one (.own 0 v 0 o.length)),(6,La1 i),(7,La1 j)],⟨false,v,12,pc o,false,75⟩::G⟩=some (.exit 0,⟨c,⟨false,v,12,pc o,false,75⟩::G⟩)/\Xi c 5=some (.one (.own 0 v 0 o.length)):=by
   apply VW
   ·rw[Xb];simp only[Xo,Xs,VD,reduceIte,Nat.reduceEqDiff,x10_1,N.len,O.len,h1,h2];rfl
   ·simp only[Xo,reduceIte,Nat.reduceEqDiff]
  obtain⟨c,q,C⟩:=this;exact⟨c,G,v,by simpa using q,by simpa using C⟩
 |@Io x y z u m U os r h Q=>
  intro i j k v o G D F H I ho M;rcases k with _|k;omega;simp only[Zj,Zr,ZU]at H I M;obtain⟨X,dp⟩:=Xh D;have Z:=fun(e:HF) (f:IntKind)=>N.idx (h:=e) (k:=f) (sz:=12) X (by simp[XI,r.1])
  have g:i<a.length:=by omega
  have t:¬i=a.length:=by omega
  have m8:=r.1;have tm:(Xu m).take 8=Xu m:=Ze (by rw[Xc];omega);obtain rfl:j=b.length:=by omega
  have W:Xd .i64 (.ofNat (i+1))=.ofNat (i+1):=wrap_i64 (by omega);have d:Xd .i64 (.ofNat (b.length+1))=.ofNat (b.length+1):=wrap_i64 (by omega);have S:(o.length+1)*128<=lim:=by unfold lim;omega
  have T:o.length+1<=9223372036854775807:=by omega
  obtain⟨c,B,A,q,C⟩:=Q (i+1) b.length k (v+1) (o++[(x::y::z::u::mo m)]) (G++[⟨false,0,12,[.p x::.p y::.p z::.p u::Xu m],false,75⟩]) dp F (by first |omega|(simp only[Zj,Zr];omega)) (by first |omega|(simp only[Zj,Zr];omega)) (by simp only[Zn,ZK];omega) (by first |omega|(simp only[Zr];omega));refine⟨c,B,A,?_,by simpa using C⟩;rw[Zp,ZW,Zn,ZK]at q;rw[Xb];simp only[Xo,Xs,VD,reduceIte,Nat.reduceEqDiff,Nat.reduceLT,Nat.reduceAdd,x10_1,N.len,O.len,Z,g,m8,tm,W,S,T,Wj,Xc,J,X3,WB,VR];exact q
 |@Dj x y z u m V os r h Q=>
  intro i j k v o G D F H I ho M;rcases k with _|k;omega;simp only[Zj,Zr,ZU]at H I M;obtain rfl:i=a.length:=by omega
  obtain⟨Y,dq⟩:=Xh F;have iq:=fun(e:HF) (f:IntKind)=>O.idx (h:=e) (k:=f) (sz:=12) Y (by simp[XI,r.1])
  have R:j<b.length:=by omega
  have l:¬j=b.length:=by omega
  have n8:=r.1;have tn:(Xu m).take 8=Xu m:=Ze (by rw[Xc];omega);have W:Xd .i64 (.ofNat (a.length+1))=.ofNat (a.length+1):=wrap_i64 (by omega);have d:Xd .i64 (.ofNat (j+1))=.ofNat (j+1):=wrap_i64 (by omega);have S:(o.length+1)*128<=lim:=by unfold lim;omega
  have T:o.length+1<=9223372036854775807:=by omega
  obtain⟨c,B,A,q,C⟩:=Q a.length (j+1) k (v+1) (o++[(x::y::z::u::mo m)]) (G++[⟨false,0,12,[.p x::.p y::.p z::.p u::Xu m],false,75⟩]) D dq (by first |omega|(simp only[Zj,Zr];omega)) (by first |omega|(simp only[Zj,Zr];omega)) (by simp only[Zn,ZK];omega) (by first |omega|(simp only[Zr];omega));refine⟨c,B,A,?_,by simpa using C⟩;rw[Zp,ZW,Zn,ZK]at q;rw[Xb];simp only[Xo,Xs,VD,reduceIte,Nat.reduceEqDiff,Nat.reduceLT,Nat.reduceAdd,x10_1,N.len,O.len,Zx,iq,R,l,n8,tn,d,S,T,Wj,Xc,J,X3,WB,VR];exact q
 |@Ip x y z u x2 y2 z2 u2 m n U V os r P hc h Q=>
  intro i j k v o G D F H I ho M;rcases k with _|k;omega;simp only[Zj]at H I M;obtain⟨X,dp⟩:=Xh D;have Z:=fun(e:HF) (f:IntKind)=>N.idx (h:=e) (k:=f) (sz:=12) X (by simp[XI,r.1])
  have g:i<a.length:=by omega
  have t:¬i=a.length:=by omega
  have m8:=r.1;have tm:(Xu m).take 8=Xu m:=Ze (by rw[Xc];omega);obtain⟨Y,dq⟩:=Xh F;have iq:=fun(e:HF) (f:IntKind)=>O.idx (h:=e) (k:=f) (sz:=12) Y (by simp[XI,P.1])
  have R:j<b.length:=by omega
  have l:¬j=b.length:=by omega
  have n8:=P.1;have tn:(Xu n).take 8=Xu n:=Ze (by rw[Xc];omega);have W:Xd .i64 (.ofNat (i+1))=.ofNat (i+1):=wrap_i64 (by omega);have d:Xd .i64 (.ofNat (j+1))=.ofNat (j+1):=wrap_i64 (by omega);have S:(o.length+1)*128<=lim:=by unfold lim;omega
  have T:o.length+1<=9223372036854775807:=by omega
  obtain⟨c,B,A,q,C⟩:=Q (i+1) j k (v+1) (o++[(x::y::z::u::mo m)]) (G++[⟨false,0,12,[.p x::.p y::.p z::.p u::Xu m],false,75⟩]) dp F (by first |omega|(simp only[Zj,Zr];omega)) (by first |omega|(simp only[Zj,Zr];omega)) (by simp only[Zn,ZK];omega) (by first |omega|(simp only[Zj];omega));refine⟨c,B,A,?_,by simpa using C⟩;rw[Zp,ZW,Zn,ZK]at q;rw[Xb];simp only[Xo,Xs,VD,reduceIte,Nat.reduceEqDiff,Nat.reduceLeDiff,Nat.reduceLT,Nat.reduceAdd,x10_1,N.len,O.len,Z,g,m8,tm,iq,l,n8,tn,W,S,T,Wj,Xc,XI,Wc,Wg,J,X3,hc,WB,VR];exact q
 |@Dk x y z u x2 y2 z2 u2 m n U V os r P hc h Q=>
  intro i j k v o G D F H I ho M;rcases k with _|k;omega;simp only[Zj]at H I M;obtain⟨X,dp⟩:=Xh D;have Z:=fun(e:HF) (f:IntKind)=>N.idx (h:=e) (k:=f) (sz:=12) X (by simp[XI,r.1])
  have g:i<a.length:=by omega
  have t:¬i=a.length:=by omega
  have m8:=r.1;have tm:(Xu m).take 8=Xu m:=Ze (by rw[Xc];omega);obtain⟨Y,dq⟩:=Xh F;have iq:=fun(e:HF) (f:IntKind)=>O.idx (h:=e) (k:=f) (sz:=12) Y (by simp[XI,P.1])
  have R:j<b.length:=by omega
  have l:¬j=b.length:=by omega
  have n8:=P.1;have tn:(Xu n).take 8=Xu n:=Ze (by rw[Xc];omega);have W:Xd .i64 (.ofNat (i+1))=.ofNat (i+1):=wrap_i64 (by omega);have d:Xd .i64 (.ofNat (j+1))=.ofNat (j+1):=wrap_i64 (by omega);have S:(o.length+1)*128<=lim:=by unfold lim;omega
  have T:o.length+1<=9223372036854775807:=by omega
  obtain⟨c,B,A,q,C⟩:=Q i (j+1) k (v+1) (o++[(x2::y2::z2::u2::mo n)]) (G++[⟨false,0,12,[.p x2::.p y2::.p z2::.p u2::Xu n],false,75⟩]) D dq (by first |omega|(simp only[Zj,Zr];omega)) (by first |omega|(simp only[Zj,Zr];omega)) (by simp only[Zn,ZK];omega) (by first |omega|(simp only[Zj];omega));refine⟨c,B,A,?_,by simpa using C⟩;rw[Zp,ZW,Zn,ZK]at q;rw[Xb];simp only[Xo,Xs,VD,reduceIte,Nat.reduceEqDiff,Nat.reduceLeDiff,Nat.reduceLT,Nat.reduceAdd,x10_1,N.len,O.len,Z,g,t,m8,tm,iq,l,n8,tn,d,S,T,Wj,Xc,XI,Wc,Wg,J,X3,hc,WB,VR];exact q
 |@zero x y z u x2 y2 z2 u2 r1 r2 r3 r4 m n U V os r P hc ha hs h Q=>
  intro i j k v o G D F H I ho M;rcases k with _|k;omega;simp only[Zj]at H I M;obtain⟨X,dp⟩:=Xh D;have Z:=fun(e:HF) (f:IntKind)=>N.idx (h:=e) (k:=f) (sz:=12) X (by simp[XI,r.1])
  have g:i<a.length:=by omega
  have t:¬i=a.length:=by omega
  have m8:=r.1;have tm:(Xu m).take 8=Xu m:=Ze (by rw[Xc];omega);obtain⟨Y,dq⟩:=Xh F;have iq:=fun(e:HF) (f:IntKind)=>O.idx (h:=e) (k:=f) (sz:=12) Y (by simp[XI,P.1])
  have R:j<b.length:=by omega
  have l:¬j=b.length:=by omega
  have n8:=P.1;have tn:(Xu n).take 8=Xu n:=Ze (by rw[Xc];omega);have W:Xd .i64 (.ofNat (i+1))=.ofNat (i+1):=wrap_i64 (by omega);have d:Xd .i64 (.ofNat (j+1))=.ofNat (j+1):=wrap_i64 (by omega);have S:(o.length+1)*128<=lim:=by unfold lim;omega
  have T:o.length+1<=9223372036854775807:=by omega
  obtain⟨c,B,A,q,C⟩:=Q (i+1) (j+1) k v o (G++[⟨false,0,4,[[.p r1,.p r2,.p r3,.p r4]],false,48⟩]) dp dq (by first |omega|(simp only[Zj,Zr];omega)) (by first |omega|(simp only[Zj,Zr];omega)) (by omega) (by first |omega|(simp only[Zj,Zr];omega));refine⟨c,B,A,?_,C⟩;rw[Xb];simp only[Xo,Xs,VD,reduceIte,Nat.reduceEqDiff,Nat.reduceLeDiff,Nat.reduceLT,Nat.reduceAdd,x10_1,N.len,O.len,Z,g,t,m8,tm,iq,l,n8,tn,W,d,Wj,Xc,XI,Wc,Wg,J,X3,hc,ha,hs];exact q
 |@both x y z u x2 y2 z2 u2 r1 r2 r3 r4 m n s U V os r P hc ha hs h0 h Q=>
  intro i j k v o G D F H I ho M;rcases k with _|k;omega;simp only[Zj]at H I M;obtain⟨X,dp⟩:=Xh D;have Z:=fun(e:HF) (f:IntKind)=>N.idx (h:=e) (k:=f) (sz:=12) X (by simp[XI,r.1])
  have g:i<a.length:=by omega
  have t:¬i=a.length:=by omega
  have m8:=r.1;have tm:(Xu m).take 8=Xu m:=Ze (by rw[Xc];omega);obtain⟨Y,dq⟩:=Xh F;have iq:=fun(e:HF) (f:IntKind)=>O.idx (h:=e) (k:=f) (sz:=12) Y (by simp[XI,P.1])
  have R:j<b.length:=by omega
  have l:¬j=b.length:=by omega
  have n8:=P.1;have tn:(Xu n).take 8=Xu n:=Ze (by rw[Xc];omega);have W:Xd .i64 (.ofNat (i+1))=.ofNat (i+1):=wrap_i64 (by omega);have d:Xd .i64 (.ofNat (j+1))=.ofNat (j+1):=wrap_i64 (by omega);have S:(o.length+1)*128<=lim:=by unfold lim;omega
  have T:o.length+1<=9223372036854775807:=by omega
  obtain⟨c,B,A,q,C⟩:=Q (i+1) (j+1) k (v+1) (o++[(r1::r2::r3::r4::mo m)]) (G++[⟨false,0,4,[[.p r1,.p r2,.p r3,.p r4]],false,48⟩,⟨false,0,12,[.p r1::.p r2::.p r3::.p r4::Xu m],false,75⟩]) dp dq (by first |omega|(simp only[Zj,Zr];omega)) (by first |omega|(simp only[Zj,Zr];omega)) (by simp only[Zn,ZK];omega) (by first |omega|(simp only[Zj,Zr];omega));refine⟨c,B,A,?_,by simpa using C⟩;rw[Zp,ZW,Zn,ZK]at q;rw[Xb];simp only[Xo,Xs,VD,reduceIte,Nat.reduceEqDiff,Nat.reduceLeDiff,Nat.reduceLT,Nat.reduceAdd,x10_1,N.len,O.len,Z,g,t,m8,tm,iq,l,n8,tn,W,d,S,T,Wj,Xc,XI,Wc,Wg,J,X3,hc,ha,hs,h0,WB,VR];exact q
inductive vn (E:Xa)(lq:PL):Z'->PL->PL->Prop
 |nil {r:PL}:vn E lq [] r r
 |cons {x y z u:PL} {k:P'} {ps:Z'} {r t r2 rf:PL} (hk:XA k) (h1:E.pure 48 [.agg [x,y,z,u],.agg (mo k),.one lq]=some (.Wd [.one t,.one (La0 0)]))
   (h2:E.pure 10 [.one r,.one t]=some (.one r2)) (h:vn E lq ps r2 rf):vn E lq ((x::y::z::u::mo k)::ps) r rf
theorem JA {E:Xa}{K:Nat}{q s:PL}(j:E.mode=md){a:Z'}(m:Sl q a)(O:a.length<1000000):∀(rest:Z') (r d:PL),vn E s rest r d->
  ∀(i k:Nat) (H:V'),a.drop i=rest->i+rest.length=a.length->rest.length<k->
  ∃c,Xb E K 0 [0,1,6,7] x38_1 k ⟨[(0,La4 q),(1,La4 s),(6,La4 r),(7,La1 i)],H⟩=some (.exit 0,⟨c,H⟩)/\Xi c 6=some (La4 d):=by
 intro rest r d h;induction h with
 |nil=>
  intro i k H n e f;rcases k with _|k;omega;have b:¬i<a.length:=by simp at e;omega
  apply VW
  ·rw[Xb];simp only[Xo,Xs,reduceIte,Nat.reduceEqDiff,x38_1,m.len,b];rfl
  ·simp only[Xo,reduceIte,Nat.reduceEqDiff]
 |@cons x y z u o P r t Q d f D F h I=>
  intro i k H n e g;rcases k with _|k;omega;simp only[Zj]at e g;have b:i<a.length:=by omega
  obtain⟨C,v⟩:=Xh n;have J:=fun(G:HF) (M:IntKind)=>m.idx (h:=G) (k:=M) (sz:=12) C (by simp[XI,f.1])
  have w:Xd .i64 (.ofNat (i+1))=.ofNat (i+1):=wrap_i64 (by omega);have L:=f.1;have N:(Xu o).take 8=Xu o:=Ze (by rw[Xc];omega);obtain⟨c,A,B⟩:=I (i+1) k H v (by omega) (by omega);refine⟨c,?_,B⟩;rw[Xb];simp only[Xo,Xs,VD,reduceIte,Nat.reduceEqDiff,Nat.reduceLeDiff,Nat.reduceAdd,x38_1,m.len,b,J,Wj,Xc,XI,L,N,Wc,Wg,j,X3,D,F,w];exact A
