/- Polynomials of the reference: Times. -/
import Derived.Test.YtidginchkjhobaaGreatMon
set_option maxHeartbeats 16000000
set_option maxRecDepth 100000
namespace Go.Proofs.YtidginchkjhobaaGreat
open Go.Ev Go.Num
def pc (es:List (List PL)):List (List DL):=es.map (·.map .p)
theorem Wl (a:List (List PL)):(pc a).length=a.length:=by simp[pc]
theorem Vp (a:List (List PL))(x y z u:PL)(m:List Nat):pc a++[.p x::.p y::.p z::.p u::Xu m]=pc (a++[x::y::z::u::mo m]):=by
 simp[pc,Xu,mo]
theorem Wb (n:Nat)(h:HF):∀(m:List Nat),Xt (XA n h) (Xu m)=some (mo m)
 |[]=>rfl
 |e::m=>by
  have:=Wb n h m;simp only[Xu,mo]at this;simp only[Xu,mo,Zr,Xt,jF,this]
theorem Wf (n:Nat)(h:HF):∀(m:List Nat),(Xu m).flatMap (W1 n h)=[]
 |[]=>rfl
 |e::m=>by
  have:=Wf n h m;simp only[Xu]at this;simp only[Xu,Zr,Yw,jC,this,ZS]
theorem A0 (m:List Nat):(mo m).all PL.scalar=true:=by simp[mo,PL.scalar]
inductive gS (E:Xa)(c:List PL)(m:List Nat):List (List PL)->List (List PL)->Prop
 |nil:gS E c m [] []
 |cons {x y z u:PL} {k:List Nat} {r1 r2 r3 r4:PL} {es outs:List (List PL)} (hk:XE k) (hs:XE (Xg m k)) (h1:E.pure 90 [.agg (mo m),.agg (mo k)]=some (.XZ [.agg (mo (Xg m k)),.one (.int .i64 (.ofNat 0))]))
   (h2:E.pure 91 [.agg c,.agg [x,y,z,u]]=some (.agg [r1,r2,r3,r4])) (h:gS E c m es outs):gS E c m ((x::y::z::u::mo k)::es) ((r1::r2::r3::r4::mo (Xg m k))::outs)
theorem xw {E:Xa}{K:Nat}{l:PL}{f g c3 c4:PL}{m:List Nat}(H:m.length=8)(I:E.mode=md){a:List (List PL)}(M:Sl l a)(hl:a.length<1000000):∀(rest b:List (List PL)),gS E [f,g,c3,c4] m rest b->
  ∀(i k v:Nat) (o:List (List PL)) (G:List Xz),a.drop i=rest->i+rest.length=a.length->o.length=i->rest.length<k->
  ∃c s r,Xb E K 0 [2,3,4,8,9] x48_1 k ⟨[(2,.one (.p l)),(3,.one (.ptr 0 0 0 0)),(4,.one (.ptr 1 0 0 0)),(8,.one (.own 2 v 0 o.length)),(9,.one (.p (.int .i64 (.ofNat i))))],⟨false,0,4,[[.p f,.p g,.p c3,.p c4]],false,48⟩::⟨false,0,8,[Xu m],false,73⟩::⟨false,v,12,pc o,false,75⟩::G⟩=
    some (.exit 0,⟨c,⟨false,0,4,[[.p f,.p g,.p c3,.p c4]],false,48⟩::⟨false,0,8,[Xu m],false,73⟩::⟨false,r,12,pc (o++b),false,75⟩::s⟩)/\Xh c 8=some (.one (.own 2 r 0 (o++b).length)):=by
 intro rest b h;induction h with
 |nil=>
  intro i k v o G w B Y C;obtain⟨k,rfl⟩:∃L,k=L+1:=⟨k-1,by omega⟩;have :∃c,Xb E K 0 [2,3,4,8,9] x48_1 (k+1) ⟨[(2,.one (.p l)),(3,.one (.ptr 0 0 0 0)),(4,.one (.ptr 1 0 0 0)),(8,.one (.own 2 v 0 o.length)),(9,.one (.p (.int .i64 (.ofNat i))))],⟨false,0,4,[[.p f,.p g,.p c3,.p c4]],false,48⟩::⟨false,0,8,[Xu m],false,73⟩::⟨false,v,12,pc o,false,75⟩::G⟩=
    some (.exit 0,⟨c,⟨false,0,4,[[.p f,.p g,.p c3,.p c4]],false,48⟩::⟨false,0,8,[Xu m],false,73⟩::⟨false,v,12,pc o,false,75⟩::G⟩)/\Xh c 8=some (.one (.own 2 v 0 o.length)):=by
   have e:¬i<a.length:=by simp at B;omega
   apply VE
   ·rw[Xb];simp only[Xm,Xq,reduceIte,Nat.reduceEqDiff,x48_1,M.len,e];rfl
   ·simp only[Xm,reduceIte,Nat.reduceEqDiff]
  obtain⟨c,q,t⟩:=this;exact⟨c,G,v,by simpa using q,by simpa using t⟩
 |@cons x y z u d N O P Q R b C Z V W h ih=>
  intro i k v o G w B Y F;obtain⟨k,rfl⟩:∃L,k=L+1:=⟨k-1,by omega⟩;simp only[Zi]at B F;have e:i<a.length:=by omega
  have j:a[i]? =some (x::y::z::u::mo d):=by
   have:=congrArg (·[0]?) w;simpa using this
  have n:=fun(X:HF) (kd:IntKind)=>M.idx (h:=X) (k:=kd) (sz:=12) j (by simp[XI,C.1])
  have A:a.drop (i+1)=R:=by
   have:=congrArg (List.drop 1) w;simpa[List.drop_drop]using this
  have S:Xe .i64 (.ofNat (i+1))=.ofNat (i+1):=wrap_i64 (by omega);have T:(o.length+1)*128<=lim:=by unfold lim;omega
  have U:o.length+1<=9223372036854775807:=by omega
  have D:=C.1;have J:=Z.1;have t1:(Xu m).take 8=Xu m:=Zd (by rw[Xc];omega);have t2:(Xu d).take 8=Xu d:=Zd (by rw[Xc];omega);have t3:(Xu (Xg m d)).take 8=Xu (Xg m d):=Zd (by rw[Xc];omega);have t4:(Xu (Xg m d)).drop 8=[]:=Zm (by rw[Xc];omega);obtain⟨c,s,r,q,t⟩:=ih (i+1) k (v+1) (o++[N::O::P::Q::mo (Xg m d)]) (G++[⟨false,0,8,[Xu (Xg m d)],false,73⟩,⟨false,0,12,[.p N::.p O::.p P::.p Q::Xu (Xg m d)],false,75⟩]) A (by omega) (by simp;omega) (by omega);refine⟨c,s,r,?_,by simpa using t⟩;rw[Xb];rw[Zq,Z5,Zk,ZR]at q;simp only[Xm,Xq,Vg,reduceIte,Nat.reduceEqDiff,Nat.reduceLeDiff,Nat.reduceLT,Nat.reduceAdd,x48_1,M.len,e,n,Wk,Xc,XI,D,J,H,t1,t2,t3,Wb,Wf,I,X5,V,W,S,T,U,Wl,Vp,A0];exact q
theorem ub (n:Nat)(h:HF):∀(a:List PL),Xt (XA n h) (a.map DL.p)=some a
 |[]=>rfl
 |c::a=>by simp only[Zr,Xt,jF,ub n h a]
theorem VK (n:Nat)(h:HF):∀(a:List (List PL)),Xt (Xt (XA n h)) (pc a)=some a
 |[]=>rfl
 |c::a=>by
  have:=VK n h a;simp only[pc]at this;simp only[pc,Zr,Xt,ub,this]
theorem tZ (n:Nat)(h:HF):∀(a:List PL),(a.map DL.p).flatMap (W1 n h)=[]
 |[]=>rfl
 |c::a=>by simp only[Zr,Yw,jC,tZ n h a,ZS]
theorem rH (n:Nat)(h:HF):∀(a:List (List PL)),(pc a).flatMap (fun c=>c.flatMap (W1 n h))=[]
 |[]=>rfl
 |c::a=>by
  have:=rH n h a;simp only[pc]at this;simp only[pc,Zr,Yw,tZ,this,ZS]
theorem VA (a:List (List PL)){n:Nat}(h:a.length<=n):(pc a).take n=pc a:=Zd (by rw[Wl];exact h)
def zM:List Nat:=[0,0,0,0,0,0,0,0]
theorem Cq:XE zM:=⟨rfl,by decide⟩
theorem cy {m:List Nat}(h:m.length=8):Xg zM m=m:=by
 obtain⟨a,b,c,d,e,f,g,i,rfl⟩:=SR h;simp[Xg,zM]
inductive RN (E:Xa):List (List PL)->List (List PL)->List (List PL)->Prop
 |nil:RN E [] [] []
 |Cz {x y z u:PL} {m:List Nat} {ps os:List (List PL)} (hm:XE m) (h:RN E ps [] os):RN E ((x::y::z::u::mo m)::ps) [] ((x::y::z::u::mo m)::os)
 |yb {x y z u:PL} {m:List Nat} {qs os:List (List PL)} (hm:XE m) (h:RN E [] qs os):RN E [] ((x::y::z::u::mo m)::qs) ((x::y::z::u::mo m)::os)
 |CA {x y z u x2 y2 z2 u2:PL} {m n:List Nat} {ps qs os:List (List PL)} (hm:XE m) (hn:XE n) (hc:E.pure 35 [.agg (mo m),.agg (mo n)]=some (.one (.int .i64 (.ofNat 1)))) (h:RN E ps ((x2::y2::z2::u2::mo n)::qs) os):
   RN E ((x::y::z::u::mo m)::ps) ((x2::y2::z2::u2::mo n)::qs) ((x::y::z::u::mo m)::os)
 |yc {x y z u x2 y2 z2 u2:PL} {m n:List Nat} {ps qs os:List (List PL)} (hm:XE m) (hn:XE n) (hc:E.pure 35 [.agg (mo m),.agg (mo n)]=some (.one (.int .i64 (.negSucc 0)))) (h:RN E ((x::y::z::u::mo m)::ps) qs os):
   RN E ((x::y::z::u::mo m)::ps) ((x2::y2::z2::u2::mo n)::qs) ((x2::y2::z2::u2::mo n)::os)
 |zero {x y z u x2 y2 z2 u2 r1 r2 r3 r4:PL} {m n:List Nat} {ps qs os:List (List PL)} (hm:XE m) (hn:XE n) (hc:E.pure 35 [.agg (mo m),.agg (mo n)]=some (.one (.int .i64 (.ofNat 0))))
   (ha:E.pure 36 [.agg [x,y,z,u],.agg [x2,y2,z2,u2]]=some (.agg [r1,r2,r3,r4])) (hs:E.pure 37 [.agg [r1,r2,r3,r4]]=some (.one (.int .i64 (.ofNat 0)))) (h:RN E ps qs os):
   RN E ((x::y::z::u::mo m)::ps) ((x2::y2::z2::u2::mo n)::qs) os
 |both {x y z u x2 y2 z2 u2 r1 r2 r3 r4:PL} {m n:List Nat} {s:Int} {ps qs os:List (List PL)} (hm:XE m) (hn:XE n) (hc:E.pure 35 [.agg (mo m),.agg (mo n)]=some (.one (.int .i64 (.ofNat 0))))
   (ha:E.pure 36 [.agg [x,y,z,u],.agg [x2,y2,z2,u2]]=some (.agg [r1,r2,r3,r4])) (hs:E.pure 37 [.agg [r1,r2,r3,r4]]=some (.one (.int .i64 s))) (h0:Pc s (.ofNat 0)=false) (h:RN E ps qs os):
   RN E ((x::y::z::u::mo m)::ps) ((x2::y2::z2::u2::mo n)::qs) ((r1::r2::r3::r4::mo m)::os)
theorem Xi {a:Type}{l r:List a}{i:Nat}{c:a}(h:l.drop i=c::r):l[i]? =some c/\l.drop (i+1)=r:=by
 have b:=congrArg (·[0]?) h;have d:=congrArg (List.drop 1) h;exact⟨by simpa using b,by simpa[List.drop_drop]using d⟩
theorem DY {E:Xa}{K:Nat}{lp lq:PL}(J:E.mode=md){a b:List (List PL)}(N:Sl lp a)(O:Sl lq b)(a0:a.length<1000000)(a1:b.length<1000000):∀(U V w:List (List PL)),RN E U V w->
  ∀(i j k v:Nat) (o:List (List PL)) (G:List Xz),a.drop i=U->b.drop j=V->i+U.length=a.length->j+V.length=b.length->o.length<=i+j->U.length+V.length<k->
  ∃c B A,Xb E K 0 [0,1,5,6,7] x10_1 k ⟨[(0,.one (.p lp)),(1,.one (.p lq)),(5,.one (.own 0 v 0 o.length)),(6,.one (.p (.int .i64 (.ofNat i)))),(7,.one (.p (.int .i64 (.ofNat j))))],⟨false,v,12,pc o,false,75⟩::G⟩=some (.exit 0,⟨c,⟨false,A,12,pc (o++w),false,75⟩::B⟩)/\Xh c 5=some (.one (.own 0 A 0 (o++w).length)):=by
 intro U V w h;induction h with
 |nil=>
  intro i j k v o G D F H I ho M;obtain⟨k,rfl⟩:∃L,k=L+1:=⟨k-1,by omega⟩;have h1:¬i<a.length:=by simp at H;omega
  have h2:¬j<b.length:=by simp at I;omega
  have :∃c,Xb E K 0 [0,1,5,6,7] x10_1 (k+1) ⟨[(0,.one (.p lp)),(1,.one (.p lq)),(5,.one (.own 0 v 0 o.length)),(6,.one (.p (.int .i64 (.ofNat i)))),(7,.one (.p (.int .i64 (.ofNat j))))],⟨false,v,12,pc o,false,75⟩::G⟩=some (.exit 0,⟨c,⟨false,v,12,pc o,false,75⟩::G⟩)/\Xh c 5=some (.one (.own 0 v 0 o.length)):=by
   apply VE
   ·rw[Xb];simp only[Xm,Xq,Vg,reduceIte,Nat.reduceEqDiff,x10_1,N.len,O.len,h1,h2];rfl
   ·simp only[Xm,reduceIte,Nat.reduceEqDiff]
  obtain⟨c,q,C⟩:=this;exact⟨c,G,v,by simpa using q,by simpa using C⟩
 |@Cz x y z u m U os r h Q=>
  intro i j k v o G D F H I ho M;obtain⟨k,rfl⟩:∃L,k=L+1:=⟨k-1,by omega⟩;simp only[Zi,Zu,Yk]at H I M;obtain⟨X,dp⟩:=Xi D;have Z:=fun(e:HF) (f:IntKind)=>N.idx (h:=e) (k:=f) (sz:=12) X (by simp[XI,r.1])
  have g:i<a.length:=by omega
  have t:¬i=a.length:=by omega
  have m8:=r.1;have tm:(Xu m).take 8=Xu m:=Zd (by rw[Xc];omega);obtain rfl:j=b.length:=by omega
  have W:Xe .i64 (.ofNat (i+1))=.ofNat (i+1):=wrap_i64 (by omega);have d:Xe .i64 (.ofNat (b.length+1))=.ofNat (b.length+1):=wrap_i64 (by omega);have S:(o.length+1)*128<=lim:=by unfold lim;omega
  have T:o.length+1<=9223372036854775807:=by omega
  obtain⟨c,B,A,q,C⟩:=Q (i+1) b.length k (v+1) (o++[(x::y::z::u::mo m)]) (G++[⟨false,0,12,[.p x::.p y::.p z::.p u::Xu m],false,75⟩]) dp F (by first |omega|(simp only[Zi,Zu];omega)) (by first |omega|(simp only[Zi,Zu];omega)) (by simp only[Zk,ZR];omega) (by first |omega|(simp only[Zu];omega));refine⟨c,B,A,?_,by simpa using C⟩;rw[Zq,Z5,Zk,ZR]at q;rw[Xb];simp only[Xm,Xq,Vg,reduceIte,Nat.reduceEqDiff,Nat.reduceLT,Nat.reduceAdd,x10_1,N.len,O.len,Z,g,m8,tm,W,S,T,Wk,Xc,J,X5,Wl,Vp];exact q
 |@yb x y z u m V os r h Q=>
  intro i j k v o G D F H I ho M;obtain⟨k,rfl⟩:∃L,k=L+1:=⟨k-1,by omega⟩;simp only[Zi,Zu,Yk]at H I M;obtain rfl:i=a.length:=by omega
  obtain⟨Y,dq⟩:=Xi F;have iq:=fun(e:HF) (f:IntKind)=>O.idx (h:=e) (k:=f) (sz:=12) Y (by simp[XI,r.1])
  have R:j<b.length:=by omega
  have l:¬j=b.length:=by omega
  have n8:=r.1;have tn:(Xu m).take 8=Xu m:=Zd (by rw[Xc];omega);have W:Xe .i64 (.ofNat (a.length+1))=.ofNat (a.length+1):=wrap_i64 (by omega);have d:Xe .i64 (.ofNat (j+1))=.ofNat (j+1):=wrap_i64 (by omega);have S:(o.length+1)*128<=lim:=by unfold lim;omega
  have T:o.length+1<=9223372036854775807:=by omega
  obtain⟨c,B,A,q,C⟩:=Q a.length (j+1) k (v+1) (o++[(x::y::z::u::mo m)]) (G++[⟨false,0,12,[.p x::.p y::.p z::.p u::Xu m],false,75⟩]) D dq (by first |omega|(simp only[Zi,Zu];omega)) (by first |omega|(simp only[Zi,Zu];omega)) (by simp only[Zk,ZR];omega) (by first |omega|(simp only[Zu];omega));refine⟨c,B,A,?_,by simpa using C⟩;rw[Zq,Z5,Zk,ZR]at q;rw[Xb];simp only[Xm,Xq,Vg,reduceIte,Nat.reduceEqDiff,Nat.reduceLT,Nat.reduceAdd,x10_1,N.len,O.len,Zx,iq,R,l,n8,tn,d,S,T,Wk,Xc,J,X5,Wl,Vp];exact q
 |@CA x y z u x2 y2 z2 u2 m n U V os r P hc h Q=>
  intro i j k v o G D F H I ho M;obtain⟨k,rfl⟩:∃L,k=L+1:=⟨k-1,by omega⟩;simp only[Zi]at H I M;obtain⟨X,dp⟩:=Xi D;have Z:=fun(e:HF) (f:IntKind)=>N.idx (h:=e) (k:=f) (sz:=12) X (by simp[XI,r.1])
  have g:i<a.length:=by omega
  have t:¬i=a.length:=by omega
  have m8:=r.1;have tm:(Xu m).take 8=Xu m:=Zd (by rw[Xc];omega);obtain⟨Y,dq⟩:=Xi F;have iq:=fun(e:HF) (f:IntKind)=>O.idx (h:=e) (k:=f) (sz:=12) Y (by simp[XI,P.1])
  have R:j<b.length:=by omega
  have l:¬j=b.length:=by omega
  have n8:=P.1;have tn:(Xu n).take 8=Xu n:=Zd (by rw[Xc];omega);have W:Xe .i64 (.ofNat (i+1))=.ofNat (i+1):=wrap_i64 (by omega);have d:Xe .i64 (.ofNat (j+1))=.ofNat (j+1):=wrap_i64 (by omega);have S:(o.length+1)*128<=lim:=by unfold lim;omega
  have T:o.length+1<=9223372036854775807:=by omega
  obtain⟨c,B,A,q,C⟩:=Q (i+1) j k (v+1) (o++[(x::y::z::u::mo m)]) (G++[⟨false,0,12,[.p x::.p y::.p z::.p u::Xu m],false,75⟩]) dp F (by first |omega|(simp only[Zi,Zu];omega)) (by first |omega|(simp only[Zi,Zu];omega)) (by simp only[Zk,ZR];omega) (by first |omega|(simp only[Zi];omega));refine⟨c,B,A,?_,by simpa using C⟩;rw[Zq,Z5,Zk,ZR]at q;rw[Xb];simp only[Xm,Xq,Vg,reduceIte,Nat.reduceEqDiff,Nat.reduceLeDiff,Nat.reduceLT,Nat.reduceAdd,x10_1,N.len,O.len,Z,g,m8,tm,iq,l,n8,tn,W,S,T,Wk,Xc,XI,Wb,Wf,J,X5,hc,Wl,Vp];exact q
 |@yc x y z u x2 y2 z2 u2 m n U V os r P hc h Q=>
  intro i j k v o G D F H I ho M;obtain⟨k,rfl⟩:∃L,k=L+1:=⟨k-1,by omega⟩;simp only[Zi]at H I M;obtain⟨X,dp⟩:=Xi D;have Z:=fun(e:HF) (f:IntKind)=>N.idx (h:=e) (k:=f) (sz:=12) X (by simp[XI,r.1])
  have g:i<a.length:=by omega
  have t:¬i=a.length:=by omega
  have m8:=r.1;have tm:(Xu m).take 8=Xu m:=Zd (by rw[Xc];omega);obtain⟨Y,dq⟩:=Xi F;have iq:=fun(e:HF) (f:IntKind)=>O.idx (h:=e) (k:=f) (sz:=12) Y (by simp[XI,P.1])
  have R:j<b.length:=by omega
  have l:¬j=b.length:=by omega
  have n8:=P.1;have tn:(Xu n).take 8=Xu n:=Zd (by rw[Xc];omega);have W:Xe .i64 (.ofNat (i+1))=.ofNat (i+1):=wrap_i64 (by omega);have d:Xe .i64 (.ofNat (j+1))=.ofNat (j+1):=wrap_i64 (by omega);have S:(o.length+1)*128<=lim:=by unfold lim;omega
  have T:o.length+1<=9223372036854775807:=by omega
  obtain⟨c,B,A,q,C⟩:=Q i (j+1) k (v+1) (o++[(x2::y2::z2::u2::mo n)]) (G++[⟨false,0,12,[.p x2::.p y2::.p z2::.p u2::Xu n],false,75⟩]) D dq (by first |omega|(simp only[Zi,Zu];omega)) (by first |omega|(simp only[Zi,Zu];omega)) (by simp only[Zk,ZR];omega) (by first |omega|(simp only[Zi];omega));refine⟨c,B,A,?_,by simpa using C⟩;rw[Zq,Z5,Zk,ZR]at q;rw[Xb];simp only[Xm,Xq,Vg,reduceIte,Nat.reduceEqDiff,Nat.reduceLeDiff,Nat.reduceLT,Nat.reduceAdd,x10_1,N.len,O.len,Z,g,t,m8,tm,iq,l,n8,tn,d,S,T,Wk,Xc,XI,Wb,Wf,J,X5,hc,Wl,Vp];exact q
 |@zero x y z u x2 y2 z2 u2 r1 r2 r3 r4 m n U V os r P hc ha hs h Q=>
  intro i j k v o G D F H I ho M;obtain⟨k,rfl⟩:∃L,k=L+1:=⟨k-1,by omega⟩;simp only[Zi]at H I M;obtain⟨X,dp⟩:=Xi D;have Z:=fun(e:HF) (f:IntKind)=>N.idx (h:=e) (k:=f) (sz:=12) X (by simp[XI,r.1])
  have g:i<a.length:=by omega
  have t:¬i=a.length:=by omega
  have m8:=r.1;have tm:(Xu m).take 8=Xu m:=Zd (by rw[Xc];omega);obtain⟨Y,dq⟩:=Xi F;have iq:=fun(e:HF) (f:IntKind)=>O.idx (h:=e) (k:=f) (sz:=12) Y (by simp[XI,P.1])
  have R:j<b.length:=by omega
  have l:¬j=b.length:=by omega
  have n8:=P.1;have tn:(Xu n).take 8=Xu n:=Zd (by rw[Xc];omega);have W:Xe .i64 (.ofNat (i+1))=.ofNat (i+1):=wrap_i64 (by omega);have d:Xe .i64 (.ofNat (j+1))=.ofNat (j+1):=wrap_i64 (by omega);have S:(o.length+1)*128<=lim:=by unfold lim;omega
  have T:o.length+1<=9223372036854775807:=by omega
  obtain⟨c,B,A,q,C⟩:=Q (i+1) (j+1) k v o (G++[⟨false,0,4,[[.p r1,.p r2,.p r3,.p r4]],false,48⟩]) dp dq (by first |omega|(simp only[Zi,Zu];omega)) (by first |omega|(simp only[Zi,Zu];omega)) (by omega) (by first |omega|(simp only[Zi,Zu];omega));refine⟨c,B,A,?_,C⟩;rw[Xb];simp only[Xm,Xq,Vg,reduceIte,Nat.reduceEqDiff,Nat.reduceLeDiff,Nat.reduceLT,Nat.reduceAdd,x10_1,N.len,O.len,Z,g,t,m8,tm,iq,l,n8,tn,W,d,Wk,Xc,XI,Wb,Wf,J,X5,hc,ha,hs];exact q
 |@both x y z u x2 y2 z2 u2 r1 r2 r3 r4 m n s U V os r P hc ha hs h0 h Q=>
  intro i j k v o G D F H I ho M;obtain⟨k,rfl⟩:∃L,k=L+1:=⟨k-1,by omega⟩;simp only[Zi]at H I M;obtain⟨X,dp⟩:=Xi D;have Z:=fun(e:HF) (f:IntKind)=>N.idx (h:=e) (k:=f) (sz:=12) X (by simp[XI,r.1])
  have g:i<a.length:=by omega
  have t:¬i=a.length:=by omega
  have m8:=r.1;have tm:(Xu m).take 8=Xu m:=Zd (by rw[Xc];omega);obtain⟨Y,dq⟩:=Xi F;have iq:=fun(e:HF) (f:IntKind)=>O.idx (h:=e) (k:=f) (sz:=12) Y (by simp[XI,P.1])
  have R:j<b.length:=by omega
  have l:¬j=b.length:=by omega
  have n8:=P.1;have tn:(Xu n).take 8=Xu n:=Zd (by rw[Xc];omega);have W:Xe .i64 (.ofNat (i+1))=.ofNat (i+1):=wrap_i64 (by omega);have d:Xe .i64 (.ofNat (j+1))=.ofNat (j+1):=wrap_i64 (by omega);have S:(o.length+1)*128<=lim:=by unfold lim;omega
  have T:o.length+1<=9223372036854775807:=by omega
  obtain⟨c,B,A,q,C⟩:=Q (i+1) (j+1) k (v+1) (o++[(r1::r2::r3::r4::mo m)]) (G++[⟨false,0,4,[[.p r1,.p r2,.p r3,.p r4]],false,48⟩,⟨false,0,12,[.p r1::.p r2::.p r3::.p r4::Xu m],false,75⟩]) dp dq (by first |omega|(simp only[Zi,Zu];omega)) (by first |omega|(simp only[Zi,Zu];omega)) (by simp only[Zk,ZR];omega) (by first |omega|(simp only[Zi,Zu];omega));refine⟨c,B,A,?_,by simpa using C⟩;rw[Zq,Z5,Zk,ZR]at q;rw[Xb];simp only[Xm,Xq,Vg,reduceIte,Nat.reduceEqDiff,Nat.reduceLeDiff,Nat.reduceLT,Nat.reduceAdd,x10_1,N.len,O.len,Z,g,t,m8,tm,iq,l,n8,tn,W,d,S,T,Wk,Xc,XI,Wb,Wf,J,X5,hc,ha,hs,h0,Wl,Vp];exact q
inductive p6 (E:Xa)(lq:PL):List (List PL)->PL->PL->Prop
 |nil {r:PL}:p6 E lq [] r r
 |cons {x y z u:PL} {k:List Nat} {ps:List (List PL)} {r t r2 rf:PL} (hk:XE k) (h1:E.pure 48 [.agg [x,y,z,u],.agg (mo k),.one lq]=some (.XZ [.one t,.one (.int .i64 (.ofNat 0))]))
   (h2:E.pure 10 [.one r,.one t]=some (.one r2)) (h:p6 E lq ps r2 rf):p6 E lq ((x::y::z::u::mo k)::ps) r rf
theorem Dp {E:Xa}{K:Nat}{q s:PL}(j:E.mode=md){a:List (List PL)}(m:Sl q a)(O:a.length<1000000):∀(rest:List (List PL)) (r d:PL),p6 E s rest r d->
  ∀(i k:Nat) (H:List Xz),a.drop i=rest->i+rest.length=a.length->rest.length<k->
  ∃c,Xb E K 0 [0,1,6,7] x38_1 k ⟨[(0,.one (.p q)),(1,.one (.p s)),(6,.one (.p r)),(7,.one (.p (.int .i64 (.ofNat i))))],H⟩=some (.exit 0,⟨c,H⟩)/\Xh c 6=some (.one (.p d)):=by
 intro rest r d h;induction h with
 |nil=>
  intro i k H n e f;obtain⟨k,rfl⟩:∃l,k=l+1:=⟨k-1,by omega⟩;have b:¬i<a.length:=by simp at e;omega
  apply VE
  ·rw[Xb];simp only[Xm,Xq,reduceIte,Nat.reduceEqDiff,x38_1,m.len,b];rfl
  ·simp only[Xm,reduceIte,Nat.reduceEqDiff]
 |@cons x y z u o P r t Q d f D F h I=>
  intro i k H n e g;obtain⟨k,rfl⟩:∃l,k=l+1:=⟨k-1,by omega⟩;simp only[Zi]at e g;have b:i<a.length:=by omega
  obtain⟨C,v⟩:=Xi n;have J:=fun(G:HF) (M:IntKind)=>m.idx (h:=G) (k:=M) (sz:=12) C (by simp[XI,f.1])
  have w:Xe .i64 (.ofNat (i+1))=.ofNat (i+1):=wrap_i64 (by omega);have L:=f.1;have N:(Xu o).take 8=Xu o:=Zd (by rw[Xc];omega);obtain⟨c,A,B⟩:=I (i+1) k H v (by omega) (by omega);refine⟨c,?_,B⟩;rw[Xb];simp only[Xm,Xq,Vg,reduceIte,Nat.reduceEqDiff,Nat.reduceLeDiff,Nat.reduceAdd,x38_1,m.len,b,J,Wk,Xc,XI,L,N,Wb,Wf,j,X5,D,F,w];exact A
end Go.Proofs.YtidginchkjhobaaGreat
