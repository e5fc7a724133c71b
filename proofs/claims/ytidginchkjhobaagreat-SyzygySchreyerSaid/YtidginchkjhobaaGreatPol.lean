/- Polynomials of the reference: Times. -/
import Derived.Test.YtidginchkjhobaaGreatMon
set_option maxHeartbeats 16000000
set_option maxRecDepth 100000
namespace Go.Proofs.YtidginchkjhobaaGreat
open Go.Ev Go.Num
def pc (es:I'):K':=es.map (·.map .p)
theorem Wm (a:I'):(pc a).length=a.length:=by simp[pc]
theorem VL (a:I')(x y z u:PL)(m:P'):pc a++[.p x::.p y::.p z::.p u::Xw m]=pc (a++[x::y::z::u::mo m]):=by
 simp[pc,Xw,mo]
theorem Wb (n:Nat)(h:HF):∀(m:P'),Xv (XC n h) (Xw m)=some (mo m)
 |[]=>rfl
 |e::m=>by
  have:=Wb n h m;simp only[Xw,mo]at this;simp only[Xw,mo,Zt,Xv,mJ,this]
theorem Wf (n:Nat)(h:HF):∀(m:P'),(Xw m).flatMap (Vk n h)=[]
 |[]=>rfl
 |e::m=>by
  have:=Wf n h m;simp only[Xw]at this;simp only[Xw,Zt,List.flatMap_cons,mG,this,ZE]
theorem Er (m:P'):(mo m).all PL.scalar=true:=by simp[mo,PL.scalar]
inductive kj (E:Xa)(c:N')(m:P'):I'->I'->Prop
 |nil:kj E c m [] []
 |cons {x y z u:PL} {k:P'} {r1 r2 r3 r4:PL} {es outs:I'} (hk:XD k) (hs:XD (Xg m k)) (h1:E.pure 90 [.agg (mo m),.agg (mo k)]=some (.X9 [.agg (mo (Xg m k)),.one (LA 0)]))
   (h2:E.pure 91 [.agg c,.agg [x,y,z,u]]=some (.agg [r1,r2,r3,r4])) (h:kj E c m es outs):kj E c m ((x::y::z::u::mo k)::es) ((r1::r2::r3::r4::mo (Xg m k))::outs)
theorem AS {E:Xa}{K:Nat}{l:PL}{f g c3 c4:PL}{m:P'}(H:m.length=8)(I:E.mode=md){a:I'}(M:Sl l a)(hl:a.length<1000000):∀(rest b:I'),kj E [f,g,c3,c4] m rest b->
  ∀(i k v:Nat) (o:I') (G:V'),a.drop i=rest->i+rest.length=a.length->o.length=i->rest.length<k->
  ∃c s r,Xb E K 0 [2,3,4,8,9] x48_1 k ⟨[(2,.one (.p l)),(3,.one (.ptr 0 0 0 0)),(4,.one (.ptr 1 0 0 0)),(8,.one (.own 2 v 0 o.length)),(9,LB i)],⟨false,0,4,[[.p f,.p g,.p c3,.p c4]],false,48⟩::⟨false,0,8,[Xw m],false,73⟩::⟨false,v,12,pc o,false,75⟩::G⟩=
    some (.exit 0,⟨c,⟨false,0,4,[[.p f,.p g,.p c3,.p c4]],false,48⟩::⟨false,0,8,[Xw m],false,73⟩::⟨false,r,12,pc (o++b),false,75⟩::s⟩)/\Xh c 8=some (.one (.own 2 r 0 (o++b).length)):=by
 intro rest b h;induction h with
 |nil=>
  intro i k v o G w B Y C;obtain⟨k,rfl⟩:∃L,k=L+1:=⟨k-1,by omega⟩;have :∃c,Xb E K 0 [2,3,4,8,9] x48_1 (k+1) ⟨[(2,.one (.p l)),(3,.one (.ptr 0 0 0 0)),(4,.one (.ptr 1 0 0 0)),(8,.one (.own 2 v 0 o.length)),(9,LB i)],⟨false,0,4,[[.p f,.p g,.p c3,.p c4]],false,48⟩::⟨false,0,8,[Xw m],false,73⟩::⟨false,v,12,pc o,false,75⟩::G⟩=
    some (.exit 0,⟨c,⟨false,0,4,[[.p f,.p g,.p c3,.p c4]],false,48⟩::⟨false,0,8,[Xw m],false,73⟩::⟨false,v,12,pc o,false,75⟩::G⟩)/\Xh c 8=some (.one (.own 2 v 0 o.length)):=by
   have e:¬i<a.length:=by simp at B;omega
   apply VO
   ·rw[Xb];simp only[Xo,Xr,reduceIte,Nat.reduceEqDiff,x48_1,M.len,e];rfl
   ·simp only[Xo,reduceIte,Nat.reduceEqDiff]
  obtain⟨c,q,t⟩:=this;exact⟨c,G,v,by simpa using q,by simpa using t⟩
 |@cons x y z u d N O P Q R b C Z V W h ih=>
  intro i k v o G w B Y F;obtain⟨k,rfl⟩:∃L,k=L+1:=⟨k-1,by omega⟩;simp only[Zi]at B F;have e:i<a.length:=by omega
  have j:a[i]? =some (x::y::z::u::mo d):=by
   have:=congrArg (·[0]?) w;simpa using this
  have n:=fun(X:HF) (kd:IntKind)=>M.idx (h:=X) (k:=kd) (sz:=12) j (by simp[XF,C.1])
  have A:a.drop (i+1)=R:=by
   have:=congrArg (List.drop 1) w;simpa[List.drop_drop]using this
  have S:Xe .i64 (.ofNat (i+1))=.ofNat (i+1):=wrap_i64 (by omega);have T:(o.length+1)*128<=lim:=by unfold lim;omega
  have U:o.length+1<=9223372036854775807:=by omega
  have D:=C.1;have J:=Z.1;have t1:(Xw m).take 8=Xw m:=Zd (by rw[Xc];omega);have t2:(Xw d).take 8=Xw d:=Zd (by rw[Xc];omega);have t3:(Xw (Xg m d)).take 8=Xw (Xg m d):=Zd (by rw[Xc];omega);have t4:(Xw (Xg m d)).drop 8=[]:=Zo (by rw[Xc];omega);obtain⟨c,s,r,q,t⟩:=ih (i+1) k (v+1) (o++[N::O::P::Q::mo (Xg m d)]) (G++[⟨false,0,8,[Xw (Xg m d)],false,73⟩,⟨false,0,12,[.p N::.p O::.p P::.p Q::Xw (Xg m d)],false,75⟩]) A (by omega) (by simp;omega) (by omega);refine⟨c,s,r,?_,by simpa using t⟩;rw[Xb];rw[Zq,ZY,Zm,ZO]at q;simp only[Xo,Xr,VR,reduceIte,Nat.reduceEqDiff,Nat.reduceLeDiff,Nat.reduceLT,Nat.reduceAdd,x48_1,M.len,e,n,Wj,Xc,XF,D,J,H,t1,t2,t3,Wb,Wf,I,X4,V,W,S,T,U,Wm,VL,Er];exact q
theorem xB (n:Nat)(h:HF):∀(a:N'),Xv (XC n h) (a.map DL.p)=some a
 |[]=>rfl
 |c::a=>by simp only[Zt,Xv,mJ,xB n h a]
theorem Ve (n:Nat)(h:HF):∀(a:I'),Xv (Xv (XC n h)) (pc a)=some a
 |[]=>rfl
 |c::a=>by
  have:=Ve n h a;simp only[pc]at this;simp only[pc,Zt,Xv,xB,this]
theorem xw (n:Nat)(h:HF):∀(a:N'),(a.map DL.p).flatMap (Vk n h)=[]
 |[]=>rfl
 |c::a=>by simp only[Zt,List.flatMap_cons,mG,xw n h a,ZE]
theorem OU (n:Nat)(h:HF):∀(a:I'),(pc a).flatMap (fun c=>c.flatMap (Vk n h))=[]
 |[]=>rfl
 |c::a=>by
  have:=OU n h a;simp only[pc]at this;simp only[pc,Zt,List.flatMap_cons,xw,this,ZE]
theorem WV (a:I'){n:Nat}(h:a.length<=n):(pc a).take n=pc a:=Zd (by rw[Wm];exact h)
def zM:P':=[0,0,0,0,0,0,0,0]
theorem F8:XD zM:=⟨rfl,by decide⟩
theorem Qb {m:P'}(h:m.length=8):Xg zM m=m:=by
 obtain⟨a,b,c,d,e,f,g,i,rfl⟩:=Sw h;simp[Xg,zM]
inductive Qz (E:Xa):I'->I'->I'->Prop
 |nil:Qz E [] [] []
 |Gl {x y z u:PL} {m:P'} {ps os:I'} (hm:XD m) (h:Qz E ps [] os):Qz E ((x::y::z::u::mo m)::ps) [] ((x::y::z::u::mo m)::os)
 |Bv {x y z u:PL} {m:P'} {qs os:I'} (hm:XD m) (h:Qz E [] qs os):Qz E [] ((x::y::z::u::mo m)::qs) ((x::y::z::u::mo m)::os)
 |Gm {x y z u x2 y2 z2 u2:PL} {m n:P'} {ps qs os:I'} (hm:XD m) (hn:XD n) (hc:E.pure 35 [.agg (mo m),.agg (mo n)]=some (.one (LA 1))) (h:Qz E ps ((x2::y2::z2::u2::mo n)::qs) os):
   Qz E ((x::y::z::u::mo m)::ps) ((x2::y2::z2::u2::mo n)::qs) ((x::y::z::u::mo m)::os)
 |Bw {x y z u x2 y2 z2 u2:PL} {m n:P'} {ps qs os:I'} (hm:XD m) (hn:XD n) (hc:E.pure 35 [.agg (mo m),.agg (mo n)]=some (.one (.int .i64 (.negSucc 0)))) (h:Qz E ((x::y::z::u::mo m)::ps) qs os):
   Qz E ((x::y::z::u::mo m)::ps) ((x2::y2::z2::u2::mo n)::qs) ((x2::y2::z2::u2::mo n)::os)
 |zero {x y z u x2 y2 z2 u2 r1 r2 r3 r4:PL} {m n:P'} {ps qs os:I'} (hm:XD m) (hn:XD n) (hc:E.pure 35 [.agg (mo m),.agg (mo n)]=some (.one (LA 0)))
   (ha:E.pure 36 [.agg [x,y,z,u],.agg [x2,y2,z2,u2]]=some (.agg [r1,r2,r3,r4])) (hs:E.pure 37 [.agg [r1,r2,r3,r4]]=some (.one (LA 0))) (h:Qz E ps qs os):
   Qz E ((x::y::z::u::mo m)::ps) ((x2::y2::z2::u2::mo n)::qs) os
 |both {x y z u x2 y2 z2 u2 r1 r2 r3 r4:PL} {m n:P'} {s:Int} {ps qs os:I'} (hm:XD m) (hn:XD n) (hc:E.pure 35 [.agg (mo m),.agg (mo n)]=some (.one (LA 0)))
   (ha:E.pure 36 [.agg [x,y,z,u],.agg [x2,y2,z2,u2]]=some (.agg [r1,r2,r3,r4])) (hs:E.pure 37 [.agg [r1,r2,r3,r4]]=some (.one (.int .i64 s))) (h0:Oi s (.ofNat 0)=false) (h:Qz E ps qs os):
   Qz E ((x::y::z::u::mo m)::ps) ((x2::y2::z2::u2::mo n)::qs) ((r1::r2::r3::r4::mo m)::os)
theorem Xi {a:Type}{l r:List a}{i:Nat}{c:a}(h:l.drop i=c::r):l[i]? =some c/\l.drop (i+1)=r:=by
 have b:=congrArg (·[0]?) h;have d:=congrArg (List.drop 1) h;exact⟨by simpa using b,by simpa[List.drop_drop]using d⟩
theorem Ip {E:Xa}{K:Nat}{lp lq:PL}(J:E.mode=md){a b:I'}(N:Sl lp a)(O:Sl lq b)(a0:a.length<1000000)(a1:b.length<1000000):∀(U V w:I'),Qz E U V w->
  ∀(i j k v:Nat) (o:I') (G:V'),a.drop i=U->b.drop j=V->i+U.length=a.length->j+V.length=b.length->o.length<=i+j->U.length+V.length<k->
  ∃c B A,Xb E K 0 [0,1,5,6,7] x10_1 k ⟨[(0,.one (.p lp)),(1,.one (.p lq)),(5,.one (.own 0 v 0 o.length)),(6,LB i),(7,LB j)],⟨false,v,12,pc o,false,75⟩::G⟩=some (.exit 0,⟨c,⟨false,A,12,pc (o++w),false,75⟩::B⟩)/\Xh c 5=some (.one (.own 0 A 0 (o++w).length)):=by
 intro U V w h;induction h with
 |nil=>
  intro i j k v o G D F H I ho M;obtain⟨k,rfl⟩:∃L,k=L+1:=⟨k-1,by omega⟩;have h1:¬i<a.length:=by simp at H;omega
  have h2:¬j<b.length:=by simp at I;omega
  have :∃c,Xb E K 0 [0,1,5,6,7] x10_1 (k+1) ⟨[(0,.one (.p lp)),(1,.one (.p lq)),(5,.one (.own 0 v 0 o.length)),(6,LB i),(7,LB j)],⟨false,v,12,pc o,false,75⟩::G⟩=some (.exit 0,⟨c,⟨false,v,12,pc o,false,75⟩::G⟩)/\Xh c 5=some (.one (.own 0 v 0 o.length)):=by
   apply VO
   ·rw[Xb];simp only[Xo,Xr,VR,reduceIte,Nat.reduceEqDiff,x10_1,N.len,O.len,h1,h2];rfl
   ·simp only[Xo,reduceIte,Nat.reduceEqDiff]
  obtain⟨c,q,C⟩:=this;exact⟨c,G,v,by simpa using q,by simpa using C⟩
 |@Gl x y z u m U os r h Q=>
  intro i j k v o G D F H I ho M;obtain⟨k,rfl⟩:∃L,k=L+1:=⟨k-1,by omega⟩;simp only[Zi,Zr,Z0]at H I M;obtain⟨X,dp⟩:=Xi D;have Z:=fun(e:HF) (f:IntKind)=>N.idx (h:=e) (k:=f) (sz:=12) X (by simp[XF,r.1])
  have g:i<a.length:=by omega
  have t:¬i=a.length:=by omega
  have m8:=r.1;have tm:(Xw m).take 8=Xw m:=Zd (by rw[Xc];omega);obtain rfl:j=b.length:=by omega
  have W:Xe .i64 (.ofNat (i+1))=.ofNat (i+1):=wrap_i64 (by omega);have d:Xe .i64 (.ofNat (b.length+1))=.ofNat (b.length+1):=wrap_i64 (by omega);have S:(o.length+1)*128<=lim:=by unfold lim;omega
  have T:o.length+1<=9223372036854775807:=by omega
  obtain⟨c,B,A,q,C⟩:=Q (i+1) b.length k (v+1) (o++[(x::y::z::u::mo m)]) (G++[⟨false,0,12,[.p x::.p y::.p z::.p u::Xw m],false,75⟩]) dp F (by first |omega|(simp only[Zi,Zr];omega)) (by first |omega|(simp only[Zi,Zr];omega)) (by simp only[Zm,ZO];omega) (by first |omega|(simp only[Zr];omega));refine⟨c,B,A,?_,by simpa using C⟩;rw[Zq,ZY,Zm,ZO]at q;rw[Xb];simp only[Xo,Xr,VR,reduceIte,Nat.reduceEqDiff,Nat.reduceLT,Nat.reduceAdd,x10_1,N.len,O.len,Z,g,m8,tm,W,S,T,Wj,Xc,J,X4,Wm,VL];exact q
 |@Bv x y z u m V os r h Q=>
  intro i j k v o G D F H I ho M;obtain⟨k,rfl⟩:∃L,k=L+1:=⟨k-1,by omega⟩;simp only[Zi,Zr,Z0]at H I M;obtain rfl:i=a.length:=by omega
  obtain⟨Y,dq⟩:=Xi F;have iq:=fun(e:HF) (f:IntKind)=>O.idx (h:=e) (k:=f) (sz:=12) Y (by simp[XF,r.1])
  have R:j<b.length:=by omega
  have l:¬j=b.length:=by omega
  have n8:=r.1;have tn:(Xw m).take 8=Xw m:=Zd (by rw[Xc];omega);have W:Xe .i64 (.ofNat (a.length+1))=.ofNat (a.length+1):=wrap_i64 (by omega);have d:Xe .i64 (.ofNat (j+1))=.ofNat (j+1):=wrap_i64 (by omega);have S:(o.length+1)*128<=lim:=by unfold lim;omega
  have T:o.length+1<=9223372036854775807:=by omega
  obtain⟨c,B,A,q,C⟩:=Q a.length (j+1) k (v+1) (o++[(x::y::z::u::mo m)]) (G++[⟨false,0,12,[.p x::.p y::.p z::.p u::Xw m],false,75⟩]) D dq (by first |omega|(simp only[Zi,Zr];omega)) (by first |omega|(simp only[Zi,Zr];omega)) (by simp only[Zm,ZO];omega) (by first |omega|(simp only[Zr];omega));refine⟨c,B,A,?_,by simpa using C⟩;rw[Zq,ZY,Zm,ZO]at q;rw[Xb];simp only[Xo,Xr,VR,reduceIte,Nat.reduceEqDiff,Nat.reduceLT,Nat.reduceAdd,x10_1,N.len,O.len,Zv,iq,R,l,n8,tn,d,S,T,Wj,Xc,J,X4,Wm,VL];exact q
 |@Gm x y z u x2 y2 z2 u2 m n U V os r P hc h Q=>
  intro i j k v o G D F H I ho M;obtain⟨k,rfl⟩:∃L,k=L+1:=⟨k-1,by omega⟩;simp only[Zi]at H I M;obtain⟨X,dp⟩:=Xi D;have Z:=fun(e:HF) (f:IntKind)=>N.idx (h:=e) (k:=f) (sz:=12) X (by simp[XF,r.1])
  have g:i<a.length:=by omega
  have t:¬i=a.length:=by omega
  have m8:=r.1;have tm:(Xw m).take 8=Xw m:=Zd (by rw[Xc];omega);obtain⟨Y,dq⟩:=Xi F;have iq:=fun(e:HF) (f:IntKind)=>O.idx (h:=e) (k:=f) (sz:=12) Y (by simp[XF,P.1])
  have R:j<b.length:=by omega
  have l:¬j=b.length:=by omega
  have n8:=P.1;have tn:(Xw n).take 8=Xw n:=Zd (by rw[Xc];omega);have W:Xe .i64 (.ofNat (i+1))=.ofNat (i+1):=wrap_i64 (by omega);have d:Xe .i64 (.ofNat (j+1))=.ofNat (j+1):=wrap_i64 (by omega);have S:(o.length+1)*128<=lim:=by unfold lim;omega
  have T:o.length+1<=9223372036854775807:=by omega
  obtain⟨c,B,A,q,C⟩:=Q (i+1) j k (v+1) (o++[(x::y::z::u::mo m)]) (G++[⟨false,0,12,[.p x::.p y::.p z::.p u::Xw m],false,75⟩]) dp F (by first |omega|(simp only[Zi,Zr];omega)) (by first |omega|(simp only[Zi,Zr];omega)) (by simp only[Zm,ZO];omega) (by first |omega|(simp only[Zi];omega));refine⟨c,B,A,?_,by simpa using C⟩;rw[Zq,ZY,Zm,ZO]at q;rw[Xb];simp only[Xo,Xr,VR,reduceIte,Nat.reduceEqDiff,Nat.reduceLeDiff,Nat.reduceLT,Nat.reduceAdd,x10_1,N.len,O.len,Z,g,m8,tm,iq,l,n8,tn,W,S,T,Wj,Xc,XF,Wb,Wf,J,X4,hc,Wm,VL];exact q
 |@Bw x y z u x2 y2 z2 u2 m n U V os r P hc h Q=>
  intro i j k v o G D F H I ho M;obtain⟨k,rfl⟩:∃L,k=L+1:=⟨k-1,by omega⟩;simp only[Zi]at H I M;obtain⟨X,dp⟩:=Xi D;have Z:=fun(e:HF) (f:IntKind)=>N.idx (h:=e) (k:=f) (sz:=12) X (by simp[XF,r.1])
  have g:i<a.length:=by omega
  have t:¬i=a.length:=by omega
  have m8:=r.1;have tm:(Xw m).take 8=Xw m:=Zd (by rw[Xc];omega);obtain⟨Y,dq⟩:=Xi F;have iq:=fun(e:HF) (f:IntKind)=>O.idx (h:=e) (k:=f) (sz:=12) Y (by simp[XF,P.1])
  have R:j<b.length:=by omega
  have l:¬j=b.length:=by omega
  have n8:=P.1;have tn:(Xw n).take 8=Xw n:=Zd (by rw[Xc];omega);have W:Xe .i64 (.ofNat (i+1))=.ofNat (i+1):=wrap_i64 (by omega);have d:Xe .i64 (.ofNat (j+1))=.ofNat (j+1):=wrap_i64 (by omega);have S:(o.length+1)*128<=lim:=by unfold lim;omega
  have T:o.length+1<=9223372036854775807:=by omega
  obtain⟨c,B,A,q,C⟩:=Q i (j+1) k (v+1) (o++[(x2::y2::z2::u2::mo n)]) (G++[⟨false,0,12,[.p x2::.p y2::.p z2::.p u2::Xw n],false,75⟩]) D dq (by first |omega|(simp only[Zi,Zr];omega)) (by first |omega|(simp only[Zi,Zr];omega)) (by simp only[Zm,ZO];omega) (by first |omega|(simp only[Zi];omega));refine⟨c,B,A,?_,by simpa using C⟩;rw[Zq,ZY,Zm,ZO]at q;rw[Xb];simp only[Xo,Xr,VR,reduceIte,Nat.reduceEqDiff,Nat.reduceLeDiff,Nat.reduceLT,Nat.reduceAdd,x10_1,N.len,O.len,Z,g,t,m8,tm,iq,l,n8,tn,d,S,T,Wj,Xc,XF,Wb,Wf,J,X4,hc,Wm,VL];exact q
 |@zero x y z u x2 y2 z2 u2 r1 r2 r3 r4 m n U V os r P hc ha hs h Q=>
  intro i j k v o G D F H I ho M;obtain⟨k,rfl⟩:∃L,k=L+1:=⟨k-1,by omega⟩;simp only[Zi]at H I M;obtain⟨X,dp⟩:=Xi D;have Z:=fun(e:HF) (f:IntKind)=>N.idx (h:=e) (k:=f) (sz:=12) X (by simp[XF,r.1])
  have g:i<a.length:=by omega
  have t:¬i=a.length:=by omega
  have m8:=r.1;have tm:(Xw m).take 8=Xw m:=Zd (by rw[Xc];omega);obtain⟨Y,dq⟩:=Xi F;have iq:=fun(e:HF) (f:IntKind)=>O.idx (h:=e) (k:=f) (sz:=12) Y (by simp[XF,P.1])
  have R:j<b.length:=by omega
  have l:¬j=b.length:=by omega
  have n8:=P.1;have tn:(Xw n).take 8=Xw n:=Zd (by rw[Xc];omega);have W:Xe .i64 (.ofNat (i+1))=.ofNat (i+1):=wrap_i64 (by omega);have d:Xe .i64 (.ofNat (j+1))=.ofNat (j+1):=wrap_i64 (by omega);have S:(o.length+1)*128<=lim:=by unfold lim;omega
  have T:o.length+1<=9223372036854775807:=by omega
  obtain⟨c,B,A,q,C⟩:=Q (i+1) (j+1) k v o (G++[⟨false,0,4,[[.p r1,.p r2,.p r3,.p r4]],false,48⟩]) dp dq (by first |omega|(simp only[Zi,Zr];omega)) (by first |omega|(simp only[Zi,Zr];omega)) (by omega) (by first |omega|(simp only[Zi,Zr];omega));refine⟨c,B,A,?_,C⟩;rw[Xb];simp only[Xo,Xr,VR,reduceIte,Nat.reduceEqDiff,Nat.reduceLeDiff,Nat.reduceLT,Nat.reduceAdd,x10_1,N.len,O.len,Z,g,t,m8,tm,iq,l,n8,tn,W,d,Wj,Xc,XF,Wb,Wf,J,X4,hc,ha,hs];exact q
 |@both x y z u x2 y2 z2 u2 r1 r2 r3 r4 m n s U V os r P hc ha hs h0 h Q=>
  intro i j k v o G D F H I ho M;obtain⟨k,rfl⟩:∃L,k=L+1:=⟨k-1,by omega⟩;simp only[Zi]at H I M;obtain⟨X,dp⟩:=Xi D;have Z:=fun(e:HF) (f:IntKind)=>N.idx (h:=e) (k:=f) (sz:=12) X (by simp[XF,r.1])
  have g:i<a.length:=by omega
  have t:¬i=a.length:=by omega
  have m8:=r.1;have tm:(Xw m).take 8=Xw m:=Zd (by rw[Xc];omega);obtain⟨Y,dq⟩:=Xi F;have iq:=fun(e:HF) (f:IntKind)=>O.idx (h:=e) (k:=f) (sz:=12) Y (by simp[XF,P.1])
  have R:j<b.length:=by omega
  have l:¬j=b.length:=by omega
  have n8:=P.1;have tn:(Xw n).take 8=Xw n:=Zd (by rw[Xc];omega);have W:Xe .i64 (.ofNat (i+1))=.ofNat (i+1):=wrap_i64 (by omega);have d:Xe .i64 (.ofNat (j+1))=.ofNat (j+1):=wrap_i64 (by omega);have S:(o.length+1)*128<=lim:=by unfold lim;omega
  have T:o.length+1<=9223372036854775807:=by omega
  obtain⟨c,B,A,q,C⟩:=Q (i+1) (j+1) k (v+1) (o++[(r1::r2::r3::r4::mo m)]) (G++[⟨false,0,4,[[.p r1,.p r2,.p r3,.p r4]],false,48⟩,⟨false,0,12,[.p r1::.p r2::.p r3::.p r4::Xw m],false,75⟩]) dp dq (by first |omega|(simp only[Zi,Zr];omega)) (by first |omega|(simp only[Zi,Zr];omega)) (by simp only[Zm,ZO];omega) (by first |omega|(simp only[Zi,Zr];omega));refine⟨c,B,A,?_,by simpa using C⟩;rw[Zq,ZY,Zm,ZO]at q;rw[Xb];simp only[Xo,Xr,VR,reduceIte,Nat.reduceEqDiff,Nat.reduceLeDiff,Nat.reduceLT,Nat.reduceAdd,x10_1,N.len,O.len,Z,g,t,m8,tm,iq,l,n8,tn,W,d,S,T,Wj,Xc,XF,Wb,Wf,J,X4,hc,ha,hs,h0,Wm,VL];exact q
inductive tH (E:Xa)(lq:PL):I'->PL->PL->Prop
 |nil {r:PL}:tH E lq [] r r
 |cons {x y z u:PL} {k:P'} {ps:I'} {r t r2 rf:PL} (hk:XD k) (h1:E.pure 48 [.agg [x,y,z,u],.agg (mo k),.one lq]=some (.X9 [.one t,.one (LA 0)]))
   (h2:E.pure 10 [.one r,.one t]=some (.one r2)) (h:tH E lq ps r2 rf):tH E lq ((x::y::z::u::mo k)::ps) r rf
theorem Hz {E:Xa}{K:Nat}{q s:PL}(j:E.mode=md){a:I'}(m:Sl q a)(O:a.length<1000000):∀(rest:I') (r d:PL),tH E s rest r d->
  ∀(i k:Nat) (H:V'),a.drop i=rest->i+rest.length=a.length->rest.length<k->
  ∃c,Xb E K 0 [0,1,6,7] x38_1 k ⟨[(0,.one (.p q)),(1,.one (.p s)),(6,.one (.p r)),(7,LB i)],H⟩=some (.exit 0,⟨c,H⟩)/\Xh c 6=some (.one (.p d)):=by
 intro rest r d h;induction h with
 |nil=>
  intro i k H n e f;obtain⟨k,rfl⟩:∃l,k=l+1:=⟨k-1,by omega⟩;have b:¬i<a.length:=by simp at e;omega
  apply VO
  ·rw[Xb];simp only[Xo,Xr,reduceIte,Nat.reduceEqDiff,x38_1,m.len,b];rfl
  ·simp only[Xo,reduceIte,Nat.reduceEqDiff]
 |@cons x y z u o P r t Q d f D F h I=>
  intro i k H n e g;obtain⟨k,rfl⟩:∃l,k=l+1:=⟨k-1,by omega⟩;simp only[Zi]at e g;have b:i<a.length:=by omega
  obtain⟨C,v⟩:=Xi n;have J:=fun(G:HF) (M:IntKind)=>m.idx (h:=G) (k:=M) (sz:=12) C (by simp[XF,f.1])
  have w:Xe .i64 (.ofNat (i+1))=.ofNat (i+1):=wrap_i64 (by omega);have L:=f.1;have N:(Xw o).take 8=Xw o:=Zd (by rw[Xc];omega);obtain⟨c,A,B⟩:=I (i+1) k H v (by omega) (by omega);refine⟨c,?_,B⟩;rw[Xb];simp only[Xo,Xr,VR,reduceIte,Nat.reduceEqDiff,Nat.reduceLeDiff,Nat.reduceAdd,x38_1,m.len,b,J,Wj,Xc,XF,L,N,Wb,Wf,j,X4,D,F,w];exact A
end Go.Proofs.YtidginchkjhobaaGreat
