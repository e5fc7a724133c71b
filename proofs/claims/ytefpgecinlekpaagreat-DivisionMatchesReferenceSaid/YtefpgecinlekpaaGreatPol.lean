/- Polynomials of the reference: Times. -/
import Derived.Test.YtefpgecinlekpaaGreatMon
set_option maxHeartbeats 16000000
set_option maxRecDepth 100000
namespace Go.Proofs.YtefpgecinlekpaaGreat
open Go.Ev Go.Num
def En (c:List PL)(t:Int×List Nat):Prop:=∃n a d b,c=.bool n::a::.bool d::b::mo t.2/\UB [.bool n,a] t.1/\UB [.bool d,b] 1/\XL t.2
abbrev dw (es:List (List PL))(ts:List (Int×List Nat)):Prop:=XF En es ts
def pc (es:List (List PL)):List (List DL):=es.map (·.map .p)
theorem Wi (a:List (List PL)):(pc a).length=a.length:=by simp[pc]
theorem Vn (a:List (List PL))(x y z u:PL)(m:List Nat):pc a++[.p x::.p y::.p z::.p u::Xm m]=pc (a++[x::y::z::u::mo m]):=by
 simp[pc,Xm,mo]
theorem XK (n:Nat)(h:HF):∀(m:List Nat),Xt (XB n h) (Xm m)=some (mo m)
 |[]=>rfl
 |e::m=>by
  have:=XK n h m;simp only[Xm,mo]at this;simp only[Xm,mo,Zw,Xt,jJ,this]
theorem XN (n:Nat)(h:HF):∀(m:List Nat),(Xm m).flatMap (WY n h)=[]
 |[]=>rfl
 |e::m=>by
  have:=XN n h m;simp only[Xm]at this;simp only[Xm,Zw,Yo,jG,this,ZN]
theorem A1 (m:List Nat):(mo m).all PL.scalar=true:=by simp[mo,PL.scalar]
inductive gU (E:Xb)(c:List PL)(m:List Nat):List (List PL)->List (List PL)->Prop
 |nil:gU E c m [] []
 |cons {x y z u:PL} {k:List Nat} {r1 r2 r3 r4:PL} {es outs:List (List PL)} (hk:XL k) (hs:XL (Xg m k)) (h1:E.pure 120 [.agg (mo m),.agg (mo k)]=some (.XY [.agg (mo (Xg m k)),.one (.int .i64 (.ofNat 0))]))
   (h2:E.pure 121 [.agg c,.agg [x,y,z,u]]=some (.agg [r1,r2,r3,r4])) (h:gU E c m es outs):gU E c m ((x::y::z::u::mo k)::es) ((r1::r2::r3::r4::mo (Xg m k))::outs)
theorem wZ {E:Xb}{K:Nat}{l:PL}{f g c3 j:PL}{m:List Nat}(I:m.length=8)(J:E.mode=md){a:List (List PL)}(N:Sl l a)(hl:a.length<1000000):∀(rest b:List (List PL)),gU E [f,g,c3,j] m rest b->
  ∀(i k v:Nat) (o:List (List PL)) (G:List Xz),a.drop i=rest->i+rest.length=a.length->o.length=i->rest.length<k->
  ∃c t s,Xc E K 0 [2,3,4,8,9] x77_1 k ⟨[(2,.one (.p l)),(3,.one (.ptr 0 0 0 0)),(4,.one (.ptr 1 0 0 0)),(8,.one (.own 2 v 0 o.length)),(9,.one (.p (.int .i64 (.ofNat i))))],⟨false,0,4,[[.p f,.p g,.p c3,.p j]],false,61⟩::⟨false,0,8,[Xm m],false,51⟩::⟨false,v,12,pc o,false,63⟩::G⟩=
    some (.exit 0,⟨c,⟨false,0,4,[[.p f,.p g,.p c3,.p j]],false,61⟩::⟨false,0,8,[Xm m],false,51⟩::⟨false,s,12,pc (o++b),false,63⟩::t⟩)/\Xh c 8=some (.one (.own 2 s 0 (o++b).length)):=by
 intro rest b h;induction h with
 |nil=>
  intro i k v o G A C Z D;obtain⟨k,rfl⟩:∃M,k=M+1:=⟨k-1,by omega⟩;have :∃c,Xc E K 0 [2,3,4,8,9] x77_1 (k+1) ⟨[(2,.one (.p l)),(3,.one (.ptr 0 0 0 0)),(4,.one (.ptr 1 0 0 0)),(8,.one (.own 2 v 0 o.length)),(9,.one (.p (.int .i64 (.ofNat i))))],⟨false,0,4,[[.p f,.p g,.p c3,.p j]],false,61⟩::⟨false,0,8,[Xm m],false,51⟩::⟨false,v,12,pc o,false,63⟩::G⟩=
    some (.exit 0,⟨c,⟨false,0,4,[[.p f,.p g,.p c3,.p j]],false,61⟩::⟨false,0,8,[Xm m],false,51⟩::⟨false,v,12,pc o,false,63⟩::G⟩)/\Xh c 8=some (.one (.own 2 v 0 o.length)):=by
   have e:¬i<a.length:=by simp at C;omega
   apply VM
   ·rw[Xc];simp only[Xp,Xq,reduceIte,Nat.reduceEqDiff,x77_1,N.len,e];rfl
   ·simp only[Xp,reduceIte,Nat.reduceEqDiff]
  obtain⟨c,r,w⟩:=this;exact⟨c,G,v,by simpa using r,by simpa using w⟩
 |@cons x y z u d O P Q R S b D hs W X h ih=>
  intro i k v o G A C Z H;obtain⟨k,rfl⟩:∃M,k=M+1:=⟨k-1,by omega⟩;simp only[Zi]at C H;have e:i<a.length:=by omega
  have n:a[i]? =some (x::y::z::u::mo d):=by
   have:=congrArg (·[0]?) A;simpa using this
  have q:=fun(Y:HF) (kd:IntKind)=>N.idx (h:=Y) (k:=kd) (sz:=12) n (by simp[Xy,D.1])
  have B:a.drop (i+1)=S:=by
   have:=congrArg (List.drop 1) A;simpa[List.drop_drop]using this
  have T:Xe .i64 (.ofNat (i+1))=.ofNat (i+1):=wrap_i64 (by omega);have U:(o.length+1)*128<=lim:=by unfold lim;omega
  have V:o.length+1<=9223372036854775807:=by omega
  have F:=D.1;have L:=hs.1;have t1:(Xm m).take 8=Xm m:=Zb (by rw[Xa];omega);have t2:(Xm d).take 8=Xm d:=Zb (by rw[Xa];omega);have t3:(Xm (Xg m d)).take 8=Xm (Xg m d):=Zb (by rw[Xa];omega);have t4:(Xm (Xg m d)).drop 8=[]:=Zj (by rw[Xa];omega);obtain⟨c,t,s,r,w⟩:=ih (i+1) k (v+1) (o++[O::P::Q::R::mo (Xg m d)]) (G++[⟨false,0,8,[Xm (Xg m d)],false,51⟩,⟨false,0,12,[.p O::.p P::.p Q::.p R::Xm (Xg m d)],false,63⟩]) B (by omega) (by simp;omega) (by omega);refine⟨c,t,s,?_,by simpa using w⟩;rw[Xc];rw[Zq,Z1,Zl,Z2]at r;simp only[Xp,Xq,VN,reduceIte,Nat.reduceEqDiff,Nat.reduceLeDiff,Nat.reduceLT,Nat.reduceAdd,x77_1,N.len,e,q,XS,Xa,Xy,F,L,I,t1,t2,t3,XK,XN,J,XW,W,X,T,U,V,Wi,Vn,A1];exact r
theorem tL (n:Nat)(h:HF):∀(a:List PL),Xt (XB n h) (a.map DL.p)=some a
 |[]=>rfl
 |c::a=>by simp only[Zw,Xt,jJ,tL n h a]
theorem Ux (n:Nat)(h:HF):∀(a:List (List PL)),Xt (Xt (XB n h)) (pc a)=some a
 |[]=>rfl
 |c::a=>by
  have:=Ux n h a;simp only[pc]at this;simp only[pc,Zw,Xt,tL,this]
theorem tI (n:Nat)(h:HF):∀(a:List PL),(a.map DL.p).flatMap (WY n h)=[]
 |[]=>rfl
 |c::a=>by simp only[Zw,Yo,jG,tI n h a,ZN]
theorem zo (n:Nat)(h:HF):∀(a:List (List PL)),(pc a).flatMap (fun c=>c.flatMap (WY n h))=[]
 |[]=>rfl
 |c::a=>by
  have:=zo n h a;simp only[pc]at this;simp only[pc,Zw,Yo,tI,this,ZN]
theorem Ui (a:List (List PL)){n:Nat}(h:a.length<=n):(pc a).take n=pc a:=Zb (by rw[Wi];exact h)
def zM:List Nat:=[0,0,0,0,0,0,0,0]
theorem CB:XL zM:=⟨rfl,by decide⟩
theorem ct {m:List Nat}(h:m.length=8):Xg zM m=m:=by
 obtain⟨a,b,c,d,e,f,g,i,rfl⟩:=SR h;simp[Xg,zM]
def C3 (l:PL)(ts:List (Int×List Nat)):Prop:=∃es,Sl l es/\dw es ts
inductive RV (E:Xb):List (List PL)->List (List PL)->List (List PL)->Prop
 |nil:RV E [] [] []
 |CP {x y z u:PL} {m:List Nat} {ps os:List (List PL)} (hm:XL m) (h:RV E ps [] os):RV E ((x::y::z::u::mo m)::ps) [] ((x::y::z::u::mo m)::os)
 |xQ {x y z u:PL} {m:List Nat} {qs os:List (List PL)} (hm:XL m) (h:RV E [] qs os):RV E [] ((x::y::z::u::mo m)::qs) ((x::y::z::u::mo m)::os)
 |CQ {x y z u x2 y2 z2 u2:PL} {m n:List Nat} {ps qs os:List (List PL)} (hm:XL m) (hn:XL n) (hc:E.pure 38 [.agg (mo m),.agg (mo n)]=some (.one (.int .i64 (.ofNat 1)))) (h:RV E ps ((x2::y2::z2::u2::mo n)::qs) os):
   RV E ((x::y::z::u::mo m)::ps) ((x2::y2::z2::u2::mo n)::qs) ((x::y::z::u::mo m)::os)
 |xR {x y z u x2 y2 z2 u2:PL} {m n:List Nat} {ps qs os:List (List PL)} (hm:XL m) (hn:XL n) (hc:E.pure 38 [.agg (mo m),.agg (mo n)]=some (.one (.int .i64 (.negSucc 0)))) (h:RV E ((x::y::z::u::mo m)::ps) qs os):
   RV E ((x::y::z::u::mo m)::ps) ((x2::y2::z2::u2::mo n)::qs) ((x2::y2::z2::u2::mo n)::os)
 |zero {x y z u x2 y2 z2 u2 r1 r2 r3 r4:PL} {m n:List Nat} {ps qs os:List (List PL)} (hm:XL m) (hn:XL n) (hc:E.pure 38 [.agg (mo m),.agg (mo n)]=some (.one (.int .i64 (.ofNat 0))))
   (ha:E.pure 75 [.agg [x,y,z,u],.agg [x2,y2,z2,u2]]=some (.agg [r1,r2,r3,r4])) (hs:E.pure 73 [.agg [r1,r2,r3,r4]]=some (.one (.int .i64 (.ofNat 0)))) (h:RV E ps qs os):
   RV E ((x::y::z::u::mo m)::ps) ((x2::y2::z2::u2::mo n)::qs) os
 |both {x y z u x2 y2 z2 u2 r1 r2 r3 r4:PL} {m n:List Nat} {s:Int} {ps qs os:List (List PL)} (hm:XL m) (hn:XL n) (hc:E.pure 38 [.agg (mo m),.agg (mo n)]=some (.one (.int .i64 (.ofNat 0))))
   (ha:E.pure 75 [.agg [x,y,z,u],.agg [x2,y2,z2,u2]]=some (.agg [r1,r2,r3,r4])) (hs:E.pure 73 [.agg [r1,r2,r3,r4]]=some (.one (.int .i64 s))) (h0:OX s (.ofNat 0)=false) (h:RV E ps qs os):
   RV E ((x::y::z::u::mo m)::ps) ((x2::y2::z2::u2::mo n)::qs) ((r1::r2::r3::r4::mo m)::os)
theorem Xf {a:Type}{l r:List a}{i:Nat}{c:a}(h:l.drop i=c::r):l[i]? =some c/\l.drop (i+1)=r:=by
 have b:=congrArg (·[0]?) h;have d:=congrArg (List.drop 1) h;exact⟨by simpa using b,by simpa[List.drop_drop]using d⟩
theorem Eg {E:Xb}{K:Nat}{lp lq:PL}(J:E.mode=md){a b:List (List PL)}(N:Sl lp a)(O:Sl lq b)(a0:a.length<1000000)(a1:b.length<1000000):∀(U V w:List (List PL)),RV E U V w->
  ∀(i j k v:Nat) (o:List (List PL)) (G:List Xz),a.drop i=U->b.drop j=V->i+U.length=a.length->j+V.length=b.length->o.length<=i+j->U.length+V.length<k->
  ∃c B A,Xc E K 0 [0,1,5,6,7] x28_1 k ⟨[(0,.one (.p lp)),(1,.one (.p lq)),(5,.one (.own 0 v 0 o.length)),(6,.one (.p (.int .i64 (.ofNat i)))),(7,.one (.p (.int .i64 (.ofNat j))))],⟨false,v,12,pc o,false,63⟩::G⟩=some (.exit 0,⟨c,⟨false,A,12,pc (o++w),false,63⟩::B⟩)/\Xh c 5=some (.one (.own 0 A 0 (o++w).length)):=by
 intro U V w h;induction h with
 |nil=>
  intro i j k v o G D F H I ho M;obtain⟨k,rfl⟩:∃L,k=L+1:=⟨k-1,by omega⟩;have h1:¬i<a.length:=by simp at H;omega
  have h2:¬j<b.length:=by simp at I;omega
  have :∃c,Xc E K 0 [0,1,5,6,7] x28_1 (k+1) ⟨[(0,.one (.p lp)),(1,.one (.p lq)),(5,.one (.own 0 v 0 o.length)),(6,.one (.p (.int .i64 (.ofNat i)))),(7,.one (.p (.int .i64 (.ofNat j))))],⟨false,v,12,pc o,false,63⟩::G⟩=some (.exit 0,⟨c,⟨false,v,12,pc o,false,63⟩::G⟩)/\Xh c 5=some (.one (.own 0 v 0 o.length)):=by
   apply VM
   ·rw[Xc];simp only[Xp,Xq,VN,reduceIte,Nat.reduceEqDiff,x28_1,N.len,O.len,h1,h2];rfl
   ·simp only[Xp,reduceIte,Nat.reduceEqDiff]
  obtain⟨c,q,C⟩:=this;exact⟨c,G,v,by simpa using q,by simpa using C⟩
 |@CP x y z u m U os r h Q=>
  intro i j k v o G D F H I ho M;obtain⟨k,rfl⟩:∃L,k=L+1:=⟨k-1,by omega⟩;simp only[Zi,Zu,Z3]at H I M;obtain⟨X,dp⟩:=Xf D;have Z:=fun(e:HF) (f:IntKind)=>N.idx (h:=e) (k:=f) (sz:=12) X (by simp[Xy,r.1])
  have g:i<a.length:=by omega
  have t:¬i=a.length:=by omega
  have m8:=r.1;have tm:(Xm m).take 8=Xm m:=Zb (by rw[Xa];omega);obtain rfl:j=b.length:=by omega
  have W:Xe .i64 (.ofNat (i+1))=.ofNat (i+1):=wrap_i64 (by omega);have d:Xe .i64 (.ofNat (b.length+1))=.ofNat (b.length+1):=wrap_i64 (by omega);have S:(o.length+1)*128<=lim:=by unfold lim;omega
  have T:o.length+1<=9223372036854775807:=by omega
  obtain⟨c,B,A,q,C⟩:=Q (i+1) b.length k (v+1) (o++[(x::y::z::u::mo m)]) (G++[⟨false,0,12,[.p x::.p y::.p z::.p u::Xm m],false,63⟩]) dp F (by first |omega|(simp only[Zi,Zu];omega)) (by first |omega|(simp only[Zi,Zu];omega)) (by simp only[Zl,Z2];omega) (by first |omega|(simp only[Zu];omega));refine⟨c,B,A,?_,by simpa using C⟩;rw[Zq,Z1,Zl,Z2]at q;rw[Xc];simp only[Xp,Xq,VN,reduceIte,Nat.reduceEqDiff,Nat.reduceLT,Nat.reduceAdd,x28_1,N.len,O.len,Z,g,m8,tm,W,S,T,XS,Xa,J,XW,Wi,Vn];exact q
 |@xQ x y z u m V os r h Q=>
  intro i j k v o G D F H I ho M;obtain⟨k,rfl⟩:∃L,k=L+1:=⟨k-1,by omega⟩;simp only[Zi,Zu,Z3]at H I M;obtain rfl:i=a.length:=by omega
  obtain⟨Y,dq⟩:=Xf F;have iq:=fun(e:HF) (f:IntKind)=>O.idx (h:=e) (k:=f) (sz:=12) Y (by simp[Xy,r.1])
  have R:j<b.length:=by omega
  have l:¬j=b.length:=by omega
  have n8:=r.1;have tn:(Xm m).take 8=Xm m:=Zb (by rw[Xa];omega);have W:Xe .i64 (.ofNat (a.length+1))=.ofNat (a.length+1):=wrap_i64 (by omega);have d:Xe .i64 (.ofNat (j+1))=.ofNat (j+1):=wrap_i64 (by omega);have S:(o.length+1)*128<=lim:=by unfold lim;omega
  have T:o.length+1<=9223372036854775807:=by omega
  obtain⟨c,B,A,q,C⟩:=Q a.length (j+1) k (v+1) (o++[(x::y::z::u::mo m)]) (G++[⟨false,0,12,[.p x::.p y::.p z::.p u::Xm m],false,63⟩]) D dq (by first |omega|(simp only[Zi,Zu];omega)) (by first |omega|(simp only[Zi,Zu];omega)) (by simp only[Zl,Z2];omega) (by first |omega|(simp only[Zu];omega));refine⟨c,B,A,?_,by simpa using C⟩;rw[Zq,Z1,Zl,Z2]at q;rw[Xc];simp only[Xp,Xq,VN,reduceIte,Nat.reduceEqDiff,Nat.reduceLT,Nat.reduceAdd,x28_1,N.len,O.len,Zv,iq,R,l,n8,tn,d,S,T,XS,Xa,J,XW,Wi,Vn];exact q
 |@CQ x y z u x2 y2 z2 u2 m n U V os r P hc h Q=>
  intro i j k v o G D F H I ho M;obtain⟨k,rfl⟩:∃L,k=L+1:=⟨k-1,by omega⟩;simp only[Zi]at H I M;obtain⟨X,dp⟩:=Xf D;have Z:=fun(e:HF) (f:IntKind)=>N.idx (h:=e) (k:=f) (sz:=12) X (by simp[Xy,r.1])
  have g:i<a.length:=by omega
  have t:¬i=a.length:=by omega
  have m8:=r.1;have tm:(Xm m).take 8=Xm m:=Zb (by rw[Xa];omega);obtain⟨Y,dq⟩:=Xf F;have iq:=fun(e:HF) (f:IntKind)=>O.idx (h:=e) (k:=f) (sz:=12) Y (by simp[Xy,P.1])
  have R:j<b.length:=by omega
  have l:¬j=b.length:=by omega
  have n8:=P.1;have tn:(Xm n).take 8=Xm n:=Zb (by rw[Xa];omega);have W:Xe .i64 (.ofNat (i+1))=.ofNat (i+1):=wrap_i64 (by omega);have d:Xe .i64 (.ofNat (j+1))=.ofNat (j+1):=wrap_i64 (by omega);have S:(o.length+1)*128<=lim:=by unfold lim;omega
  have T:o.length+1<=9223372036854775807:=by omega
  obtain⟨c,B,A,q,C⟩:=Q (i+1) j k (v+1) (o++[(x::y::z::u::mo m)]) (G++[⟨false,0,12,[.p x::.p y::.p z::.p u::Xm m],false,63⟩]) dp F (by first |omega|(simp only[Zi,Zu];omega)) (by first |omega|(simp only[Zi,Zu];omega)) (by simp only[Zl,Z2];omega) (by first |omega|(simp only[Zi];omega));refine⟨c,B,A,?_,by simpa using C⟩;rw[Zq,Z1,Zl,Z2]at q;rw[Xc];simp only[Xp,Xq,VN,reduceIte,Nat.reduceEqDiff,Nat.reduceLeDiff,Nat.reduceLT,Nat.reduceAdd,x28_1,N.len,O.len,Z,g,m8,tm,iq,l,n8,tn,W,S,T,XS,Xa,Xy,XK,XN,J,XW,hc,Wi,Vn];exact q
 |@xR x y z u x2 y2 z2 u2 m n U V os r P hc h Q=>
  intro i j k v o G D F H I ho M;obtain⟨k,rfl⟩:∃L,k=L+1:=⟨k-1,by omega⟩;simp only[Zi]at H I M;obtain⟨X,dp⟩:=Xf D;have Z:=fun(e:HF) (f:IntKind)=>N.idx (h:=e) (k:=f) (sz:=12) X (by simp[Xy,r.1])
  have g:i<a.length:=by omega
  have t:¬i=a.length:=by omega
  have m8:=r.1;have tm:(Xm m).take 8=Xm m:=Zb (by rw[Xa];omega);obtain⟨Y,dq⟩:=Xf F;have iq:=fun(e:HF) (f:IntKind)=>O.idx (h:=e) (k:=f) (sz:=12) Y (by simp[Xy,P.1])
  have R:j<b.length:=by omega
  have l:¬j=b.length:=by omega
  have n8:=P.1;have tn:(Xm n).take 8=Xm n:=Zb (by rw[Xa];omega);have W:Xe .i64 (.ofNat (i+1))=.ofNat (i+1):=wrap_i64 (by omega);have d:Xe .i64 (.ofNat (j+1))=.ofNat (j+1):=wrap_i64 (by omega);have S:(o.length+1)*128<=lim:=by unfold lim;omega
  have T:o.length+1<=9223372036854775807:=by omega
  obtain⟨c,B,A,q,C⟩:=Q i (j+1) k (v+1) (o++[(x2::y2::z2::u2::mo n)]) (G++[⟨false,0,12,[.p x2::.p y2::.p z2::.p u2::Xm n],false,63⟩]) D dq (by first |omega|(simp only[Zi,Zu];omega)) (by first |omega|(simp only[Zi,Zu];omega)) (by simp only[Zl,Z2];omega) (by first |omega|(simp only[Zi];omega));refine⟨c,B,A,?_,by simpa using C⟩;rw[Zq,Z1,Zl,Z2]at q;rw[Xc];simp only[Xp,Xq,VN,reduceIte,Nat.reduceEqDiff,Nat.reduceLeDiff,Nat.reduceLT,Nat.reduceAdd,x28_1,N.len,O.len,Z,g,t,m8,tm,iq,l,n8,tn,d,S,T,XS,Xa,Xy,XK,XN,J,XW,hc,Wi,Vn];exact q
 |@zero x y z u x2 y2 z2 u2 r1 r2 r3 r4 m n U V os r P hc ha hs h Q=>
  intro i j k v o G D F H I ho M;obtain⟨k,rfl⟩:∃L,k=L+1:=⟨k-1,by omega⟩;simp only[Zi]at H I M;obtain⟨X,dp⟩:=Xf D;have Z:=fun(e:HF) (f:IntKind)=>N.idx (h:=e) (k:=f) (sz:=12) X (by simp[Xy,r.1])
  have g:i<a.length:=by omega
  have t:¬i=a.length:=by omega
  have m8:=r.1;have tm:(Xm m).take 8=Xm m:=Zb (by rw[Xa];omega);obtain⟨Y,dq⟩:=Xf F;have iq:=fun(e:HF) (f:IntKind)=>O.idx (h:=e) (k:=f) (sz:=12) Y (by simp[Xy,P.1])
  have R:j<b.length:=by omega
  have l:¬j=b.length:=by omega
  have n8:=P.1;have tn:(Xm n).take 8=Xm n:=Zb (by rw[Xa];omega);have W:Xe .i64 (.ofNat (i+1))=.ofNat (i+1):=wrap_i64 (by omega);have d:Xe .i64 (.ofNat (j+1))=.ofNat (j+1):=wrap_i64 (by omega);have S:(o.length+1)*128<=lim:=by unfold lim;omega
  have T:o.length+1<=9223372036854775807:=by omega
  obtain⟨c,B,A,q,C⟩:=Q (i+1) (j+1) k v o (G++[⟨false,0,4,[[.p r1,.p r2,.p r3,.p r4]],false,61⟩]) dp dq (by first |omega|(simp only[Zi,Zu];omega)) (by first |omega|(simp only[Zi,Zu];omega)) (by omega) (by first |omega|(simp only[Zi,Zu];omega));refine⟨c,B,A,?_,C⟩;rw[Xc];simp only[Xp,Xq,VN,reduceIte,Nat.reduceEqDiff,Nat.reduceLeDiff,Nat.reduceLT,Nat.reduceAdd,x28_1,N.len,O.len,Z,g,t,m8,tm,iq,l,n8,tn,W,d,XS,Xa,Xy,XK,XN,J,XW,hc,ha,hs];exact q
 |@both x y z u x2 y2 z2 u2 r1 r2 r3 r4 m n s U V os r P hc ha hs h0 h Q=>
  intro i j k v o G D F H I ho M;obtain⟨k,rfl⟩:∃L,k=L+1:=⟨k-1,by omega⟩;simp only[Zi]at H I M;obtain⟨X,dp⟩:=Xf D;have Z:=fun(e:HF) (f:IntKind)=>N.idx (h:=e) (k:=f) (sz:=12) X (by simp[Xy,r.1])
  have g:i<a.length:=by omega
  have t:¬i=a.length:=by omega
  have m8:=r.1;have tm:(Xm m).take 8=Xm m:=Zb (by rw[Xa];omega);obtain⟨Y,dq⟩:=Xf F;have iq:=fun(e:HF) (f:IntKind)=>O.idx (h:=e) (k:=f) (sz:=12) Y (by simp[Xy,P.1])
  have R:j<b.length:=by omega
  have l:¬j=b.length:=by omega
  have n8:=P.1;have tn:(Xm n).take 8=Xm n:=Zb (by rw[Xa];omega);have W:Xe .i64 (.ofNat (i+1))=.ofNat (i+1):=wrap_i64 (by omega);have d:Xe .i64 (.ofNat (j+1))=.ofNat (j+1):=wrap_i64 (by omega);have S:(o.length+1)*128<=lim:=by unfold lim;omega
  have T:o.length+1<=9223372036854775807:=by omega
  obtain⟨c,B,A,q,C⟩:=Q (i+1) (j+1) k (v+1) (o++[(r1::r2::r3::r4::mo m)]) (G++[⟨false,0,4,[[.p r1,.p r2,.p r3,.p r4]],false,61⟩,⟨false,0,12,[.p r1::.p r2::.p r3::.p r4::Xm m],false,63⟩]) dp dq (by first |omega|(simp only[Zi,Zu];omega)) (by first |omega|(simp only[Zi,Zu];omega)) (by simp only[Zl,Z2];omega) (by first |omega|(simp only[Zi,Zu];omega));refine⟨c,B,A,?_,by simpa using C⟩;rw[Zq,Z1,Zl,Z2]at q;rw[Xc];simp only[Xp,Xq,VN,reduceIte,Nat.reduceEqDiff,Nat.reduceLeDiff,Nat.reduceLT,Nat.reduceAdd,x28_1,N.len,O.len,Z,g,t,m8,tm,iq,l,n8,tn,W,d,S,T,XS,Xa,Xy,XK,XN,J,XW,hc,ha,hs,h0,Wi,Vn];exact q
def Bd (b:Nat)(ts:List Tm):Prop:=∀t∈ts,t.1.natAbs<=b
inductive pJ (E:Xb)(lq:PL):List (List PL)->PL->PL->Prop
 |nil {r:PL}:pJ E lq [] r r
 |cons {x y z u:PL} {k:List Nat} {ps:List (List PL)} {r t r2 rf:PL} (hk:XL k) (h1:E.pure 77 [.agg [x,y,z,u],.agg (mo k),.one lq]=some (.XY [.one t,.one (.int .i64 (.ofNat 0))]))
   (h2:E.pure 28 [.one r,.one t]=some (.one r2)) (h:pJ E lq ps r2 rf):pJ E lq ((x::y::z::u::mo k)::ps) r rf
theorem DD {E:Xb}{K:Nat}{q s:PL}(j:E.mode=md){a:List (List PL)}(m:Sl q a)(O:a.length<1000000):∀(rest:List (List PL)) (r d:PL),pJ E s rest r d->
  ∀(i k:Nat) (H:List Xz),a.drop i=rest->i+rest.length=a.length->rest.length<k->
  ∃c,Xc E K 0 [0,1,6,7] x56_1 k ⟨[(0,.one (.p q)),(1,.one (.p s)),(6,.one (.p r)),(7,.one (.p (.int .i64 (.ofNat i))))],H⟩=some (.exit 0,⟨c,H⟩)/\Xh c 6=some (.one (.p d)):=by
 intro rest r d h;induction h with
 |nil=>
  intro i k H n e f;obtain⟨k,rfl⟩:∃l,k=l+1:=⟨k-1,by omega⟩;have b:¬i<a.length:=by simp at e;omega
  apply VM
  ·rw[Xc];simp only[Xp,Xq,reduceIte,Nat.reduceEqDiff,x56_1,m.len,b];rfl
  ·simp only[Xp,reduceIte,Nat.reduceEqDiff]
 |@cons x y z u o P r t Q d f D F h I=>
  intro i k H n e g;obtain⟨k,rfl⟩:∃l,k=l+1:=⟨k-1,by omega⟩;simp only[Zi]at e g;have b:i<a.length:=by omega
  obtain⟨C,v⟩:=Xf n;have J:=fun(G:HF) (M:IntKind)=>m.idx (h:=G) (k:=M) (sz:=12) C (by simp[Xy,f.1])
  have w:Xe .i64 (.ofNat (i+1))=.ofNat (i+1):=wrap_i64 (by omega);have L:=f.1;have N:(Xm o).take 8=Xm o:=Zb (by rw[Xa];omega);obtain⟨c,A,B⟩:=I (i+1) k H v (by omega) (by omega);refine⟨c,?_,B⟩;rw[Xc];simp only[Xp,Xq,VN,reduceIte,Nat.reduceEqDiff,Nat.reduceLeDiff,Nat.reduceAdd,x56_1,m.len,b,J,XS,Xa,Xy,L,N,XK,XN,j,XW,D,F,w];exact A
end Go.Proofs.YtefpgecinlekpaaGreat
