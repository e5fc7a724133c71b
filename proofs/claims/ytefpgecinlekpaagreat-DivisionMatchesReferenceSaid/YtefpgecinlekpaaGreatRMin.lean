/- Reference: lowest, insert. -/
import Derived.Test.YtefpgecinlekpaaGreatQMin
set_option maxHeartbeats 16000000
set_option maxRecDepth 100000
namespace Go.Proofs.YtefpgecinlekpaaGreat
open Go.Ev Go.Num
def Qo (m:List Nat)(l:List (List Nat)):Bool:=l.any fun d=> !decide (d=m)&&X9 d m
theorem RT {m n:List Nat}(a:m.length=8)(c:n.length=8):Vl true .i64 8 [.agg (Xm m),.agg (Xm n)]=some ⟨.one (.p (.bool (!decide (m=n)))),[],[],[]⟩:=by
 have b:Nat.beq (Xm m).length 8=true:=by rw[Xa,a];rfl
 simp only[Vl,W5.pure,b,cond_true,Vt m n (by rw[a,c])];cases decide (m=n)<;>rfl
abbrev SO (m:List Nat):Xz:=⟨false,0,8,[Xm m],false,51⟩
theorem qU {E:Xb}{K:Nat}(j:E.mode=md){J:PL}{m:List Nat}(q:m.length=8){b:List (List Nat)}(u:cw J b)(I:b.length<1000000)(x:∀d∈b,d.length=8)(y:∀d∈b,E.pure 85 [.agg (mo d),.agg (mo m)]=some (.one (.bool (X9 d m)))):∀(rest:List (List Nat)) (i k:Nat),b.drop i=rest->i+rest.length=b.length->rest.length<k->
  ∃o,Xc E K 0 [1,2,5] x111_1 k ⟨[(1,.one (.p J)),(2,.one (.ptr 0 0 0 0)),(5,.one (.p (.int .i64 (.ofNat i))))],[SO m]⟩=some (if Qo m rest=true then .ret else .exit 0,⟨o,[SO m]⟩)/\(Qo m rest=true->Xh o 4=some (.one (.p (.bool false))))
 |[],i,k,_,hi,hk=>by
  obtain⟨k,rfl⟩:∃A,k=A+1:=⟨k-1,by omega⟩;have g:¬i<b.length:=by simp at hi;omega
  have e:=u.len;apply VM
  ·rw[Xc];simp only[Xp,Xq,reduceIte,Nat.reduceEqDiff,x111_1,e,Zy,g,Qo,List.any_nil];rfl
  ·intro h;cases h
 |d::rest,i,k,hdr,hi,hk=>by
  obtain⟨k,rfl⟩:∃A,k=A+1:=⟨k-1,by omega⟩;simp only[Zi]at hi hk;have g:i<b.length:=by omega
  have e:=u.len;obtain⟨G,D⟩:=Xf hdr;have l:=Zt G;have r:=x d l;have e1:=y d l;have z:=fun(L:HF) (M:IntKind)=>u.idx (h:=L) (k:=M) (sz:=8) (c:=mo d) (i:=i) (by rw[Zx,G];rfl) (by rw[Xy,r])
  have F:Xe .i64 (.ofNat (i+1))=.ofNat (i+1):=wrap_i64 (by omega);have C:(Xm m).take 8=Xm m:=Zb (by rw[Xa];omega);have B:(Xm d).take 8=Xm d:=Zb (by rw[Xa];omega);have s:=RT r q;have a:Qo m (d::rest)=((!decide (d=m)&&X9 d m)||Qo m rest):=by unfold Qo;rw[List.any_cons]
  by_cases t:d=m
  ·rw[decide_eq_true t]at s a;have f:Qo m (d::rest)=Qo m rest:=by rw[a];rfl
   rw[f];obtain⟨o,v,w⟩:=qU j q u I x y rest (i+1) k D (by omega) (by omega);refine⟨o,?_,w⟩;rw[Xc];simp(decide:=true)only[Xp,Xq,reduceIte,Nat.reduceAdd,x111_1,j,XW,e,Zy,g,z,F,s,q,r,C,B,XS,Xa,SO];exact v
  ·rw[decide_eq_false t]at s a;by_cases n:X9 d m=true
   ·rw[n]at e1;have f:Qo m (d::rest)=true:=by rw[a,n];rfl
    rw[f];apply VM
    ·rw[Xc];simp(decide:=true)only[Xp,Xq,WR,reduceIte,Nat.reduceAdd,x111_1,j,XW,e,Zy,g,z,s,e1,q,r,C,B,XS,Xa,XK,XN,SO];rfl
    ·intro _;simp only[Xp,reduceIte,Nat.reduceEqDiff]
   ·have H:X9 d m=false:=by simpa using n
    rw[H]at e1;have f:Qo m (d::rest)=Qo m rest:=by rw[a,H];rfl
    rw[f];obtain⟨o,v,w⟩:=qU j q u I x y rest (i+1) k D (by omega) (by omega);refine⟨o,?_,w⟩;rw[Xc];simp(decide:=true)only[Xp,Xq,WR,reduceIte,Nat.reduceAdd,x111_1,j,XW,e,Zy,g,z,F,s,e1,q,r,C,B,XS,Xa,XK,XN,SO];exact v
theorem BL {B:Xr}(e:Std B){k:PL}{m:List Nat}(c:m.length=8){a:List (List Nat)}(l:cw k a)(r:a.length<1000000)(i:∀d∈a,d.length=8):Xs B 111 [.agg (mo m),.one k] (.one (.bool (!Qo m a))):=by
 have f:X0 B fun E _=>∀d∈a,E.pure 85 [.agg (mo d),.agg (mo m)]=some (.one (.bool (X9 d m))):=Vg (p:=fun d E _=>E.pure 85 [.agg (mo d),.agg (mo m)]=some (.one (.bool (X9 d m)))) fun d f=>(Pc e (i d f) c).Xi
 refine Xs.of (e.X6 _ _ rfl) ((f.and (e.Xi.and (X0.ge (a.length+1)))).mono fun E K ⟨e1,g,t⟩=> ?_);obtain⟨s,b,n⟩:=qU (K:=K) g c l r i e1 a 0 K rfl (by omega) (by omega);have j:=l.len;simp only[SO]at b;by_cases h:Qo m a=true
 ·rw[h]at b⊢;have o:=n h;simp(decide:=true)only[Xp,Xq,reduceIte,x111,XS,Xa,c,b,o]
 ·have q:Qo m a=false:=by simpa using h
  rw[q]at b⊢;simp(decide:=true)only[Xp,Xq,reduceIte,x111,XS,Xa,c,b]
theorem DC {n:Nat}(h:n<1000000):(n+1)*64<=lim/\n+1<=9223372036854775807/\(n+1+1)*64<=lim/\n+1+1<=9223372036854775807:=by
 have e:lim=140737488355328:=by decide
 rw[e];refine⟨?_,?_,?_,?_⟩<;>omega
abbrev vv (lr:PL)(done:Bool)(v n i:Nat):List (Nat×DV):=[(0,.one (.p lr)),(3,.one (.ptr 0 0 0 0)),(5,.one (.own 1 v 0 n)),(6,.one (.p (.bool done))),(7,.one (.p (.int .i64 (.ofNat i))))]
theorem zk {E:Xb}{K k i v:Nat}(d:E.mode=md){g:PL}{m x:List Nat}{b:List (List Nat)}{out:List (List PL)}(l:cw g b)(j:b[i]? =some x)(t:m.length=8)(f:x.length=8)(F:b.length<1000000)(u:out.length<1000000)(G:List Xz):
  ∃n,Xc E K 0 [0,3,5,6,7] x112_1 (k+1) ⟨vv g true v out.length i,SO m::V3 v out::G⟩=Xc E K 0 [0,3,5,6,7] x112_1 k ⟨vv g true (v+1) (out++[mo x]).length (i+1),SO m::V3 (v+1) (out++[mo x])::n⟩:=by
 have c:i<b.length:=(Zd.mp j).1;have r:(b.map mo)[i]? =some (mo x):=by rw[Zx,j];rfl
 have y:=fun(s:HF) (z:IntKind)=>l.idx (h:=s) (k:=z) (sz:=8) r (by rw[Xy];exact f)
 have a:=l.len;have o:Xe .i64 (.ofNat (i+1))=.ofNat (i+1):=wrap_i64 (by omega);have H:(Xm m).take 8=Xm m:=Zb (by rw[Xa];omega);have A:(Xm x).take 8=Xm x:=Zb (by rw[Xa];omega);have w:=Xo m;have I:=Xo x;obtain⟨p,q,B,C⟩:=DC u;have e:=Wi out;have D:=RT f t;rw[show V3 (v+1) (out++[mo x])=⟨false,v+1,8,pc out++[Xm x],false,51⟩by simp[V3,pc,XS]];apply Exists.intro;rw[Xc];simp(decide:=true)only[Xp,Xq,VN,hS,V3,SO,reduceIte,Nat.reduceEqDiff,Nat.reduceAdd,x112_1,d,XW,a,Zy,c,y,o,p,q,A,f,e,XS,Xa,Zl];rfl
theorem zj {E:Xb}{K k i v:Nat}(d:E.mode=md){g:PL}{m x:List Nat}{b:List (List Nat)}{out:List (List PL)}(n:cw g b)(j:b[i]? =some x)(l:m.length=8)(f:x.length=8)(I:b.length<1000000)(y:out.length<1000000)(t:E.pure 38 [.agg (mo m),.agg (mo x)]=some (.one (.int .i64 (.negSucc 0))))(G:List Xz):
  ∃o,Xc E K 0 [0,3,5,6,7] x112_1 (k+1) ⟨vv g false v out.length i,SO m::V3 v out::G⟩=Xc E K 0 [0,3,5,6,7] x112_1 k ⟨vv g false (v+1) (out++[mo x]).length (i+1),SO m::V3 (v+1) (out++[mo x])::o⟩:=by
 have c:i<b.length:=(Zd.mp j).1;have s:(b.map mo)[i]? =some (mo x):=by rw[Zx,j];rfl
 have z:=fun(u:HF) (A:IntKind)=>n.idx (h:=u) (k:=A) (sz:=8) s (by rw[Xy];exact f)
 have a:=n.len;have p:Xe .i64 (.ofNat (i+1))=.ofNat (i+1):=wrap_i64 (by omega);have B:(Xm m).take 8=Xm m:=Zb (by rw[Xa];omega);have C:(Xm x).take 8=Xm x:=Zb (by rw[Xa];omega);have w:=Xo m;have J:=Xo x;obtain⟨q,r,D,F⟩:=DC y;have e:=Wi out;have H:=RT f l;rw[show V3 (v+1) (out++[mo x])=⟨false,v+1,8,pc out++[Xm x],false,51⟩by simp[V3,pc,XS]];apply Exists.intro;rw[Xc];simp(decide:=true)only[Xp,Xq,VN,WR,hS,V3,SO,reduceIte,Nat.reduceEqDiff,Nat.reduceLeDiff,Nat.reduceAdd,x112_1,d,XW,a,Zy,c,z,t,p,q,r,B,C,l,f,e,XS,Xa,XK,XN,Zl];rfl
theorem zh {E:Xb}{K k i v:Nat}(d:E.mode=md){j:PL}{m x:List Nat}{b:List (List Nat)}{out:List (List PL)}(p:cw j b)(n:b[i]? =some x)(o:m.length=8)(f:x.length=8)(J:b.length<1000000)(A:out.length<1000000)(g:x=m)(y:E.pure 38 [.agg (mo m),.agg (mo x)]=some (.one (.int .i64 (.ofNat 0))))(G:List Xz):
  ∃q,Xc E K 0 [0,3,5,6,7] x112_1 (k+1) ⟨vv j false v out.length i,SO m::V3 v out::G⟩=Xc E K 0 [0,3,5,6,7] x112_1 k ⟨vv j true (v+1) (out++[mo x]).length (i+1),SO m::V3 (v+1) (out++[mo x])::q⟩:=by
 have c:i<b.length:=(Zd.mp n).1;have u:(b.map mo)[i]? =some (mo x):=by rw[Zx,n];rfl
 have B:=fun(z:HF) (C:IntKind)=>p.idx (h:=z) (k:=C) (sz:=8) u (by rw[Xy];exact f)
 have a:=p.len;have r:Xe .i64 (.ofNat (i+1))=.ofNat (i+1):=wrap_i64 (by omega);have D:(Xm m).take 8=Xm m:=Zb (by rw[Xa];omega);have F:(Xm x).take 8=Xm x:=Zb (by rw[Xa];omega);have w:=Xo m;have L:=Xo x;obtain⟨s,t,H,I⟩:=DC A;have e:=Wi out;have l:=RT f o;rw[decide_eq_true g]at l;rw[show V3 (v+1) (out++[mo x])=⟨false,v+1,8,pc out++[Xm x],false,51⟩by simp[V3,pc,XS]];apply Exists.intro;rw[Xc];simp(decide:=true)only[Xp,Xq,VN,WR,hS,V3,SO,reduceIte,Nat.reduceEqDiff,Nat.reduceLeDiff,Nat.reduceAdd,x112_1,d,XW,a,Zy,c,B,y,l,r,s,t,D,F,o,f,e,XS,Xa,XK,XN,Zl];rfl
theorem zi {E:Xb}{K k i v:Nat}(d:E.mode=md){j:PL}{m x:List Nat}{b:List (List Nat)}{out:List (List PL)}(p:cw j b)(n:b[i]? =some x)(o:m.length=8)(f:x.length=8)(J:b.length<1000000)(C:out.length<1000000)(g:x≠m)(A:E.pure 38 [.agg (mo m),.agg (mo x)]=some (.one (.int .i64 (.ofNat 1))))(G:List Xz):
  ∃q,Xc E K 0 [0,3,5,6,7] x112_1 (k+1) ⟨vv j false v out.length i,SO m::V3 v out::G⟩=Xc E K 0 [0,3,5,6,7] x112_1 k ⟨vv j true (v+2) (out++[mo m,mo x]).length (i+1),SO m::V3 (v+2) (out++[mo m,mo x])::q⟩:=by
 have c:i<b.length:=(Zd.mp n).1;have z:(b.map mo)[i]? =some (mo x):=by rw[Zx,n];rfl
 have D:=fun(B:HF) (F:IntKind)=>p.idx (h:=B) (k:=F) (sz:=8) z (by rw[Xy];exact f)
 have a:=p.len;have r:Xe .i64 (.ofNat (i+1))=.ofNat (i+1):=wrap_i64 (by omega);have H:(Xm m).take 8=Xm m:=Zb (by rw[Xa];omega);have I:(Xm x).take 8=Xm x:=Zb (by rw[Xa];omega);have w:=Xo m;have L:=Xo x;obtain⟨s,t,u,y⟩:=DC C;have e:=Wi out;have l:=RT f o;rw[decide_eq_false g]at l;rw[show V3 (v+2) (out++[mo m,mo x])=⟨false,v+2,8,pc out++[Xm m]++[Xm x],false,51⟩by simp[V3,pc,XS]];apply Exists.intro;rw[Xc];simp(decide:=true)only[Xp,Xq,VN,WR,hS,V3,SO,reduceIte,Nat.reduceEqDiff,Nat.reduceLeDiff,Nat.reduceAdd,x112_1,d,XW,a,Zy,c,D,A,l,r,s,t,u,y,H,I,o,f,e,XS,Xa,XK,XN,Zl,Zq];rfl
def T9 (m:List Nat):List (List Nat)->List (List Nat)
 |[]=>[m]
 |x::l=>if Wj m x=.negSucc 0 then x::T9 m l else if x=m then x::l else m::x::l
abbrev FX (T':List (Nat×DV))(b:Bool)(v n:Nat):Prop:=Xh T' 3=some (.one (.ptr 0 0 0 0))/\Xh T' 5=some (.one (.own 1 v 0 n))/\Xh T' 6=some (.one (.p (.bool b)))
theorem yL {E:Xb}{K k v:Nat}{d:PL}{m:List Nat}{e:List (List Nat)}{out:List (List PL)}(f:cw d e)(b:Bool)(G:List Xz):
  ∃c,Xc E K 0 [0,3,5,6,7] x112_1 (k+1) ⟨vv d b v out.length e.length,SO m::V3 v out::G⟩=some (.exit 0,⟨c,SO m::V3 v out::G⟩)/\FX c b v out.length:=by
 have a:=f.len;apply VM
 ·rw[Xc];simp only[Xp,Xq,reduceIte,Nat.reduceEqDiff,x112_1,a,Zy,Zv];rfl
 ·simp only[FX,Xp,reduceIte,Nat.reduceEqDiff,and_self]
theorem kU {E:Xb}{K:Nat}(b:E.mode=md){r:PL}{m:List Nat}{c:List (List Nat)}(l:cw r c)(q:m.length=8)(o:∀x∈c,x.length=8)(p:c.length<1000000):∀(rest:List (List Nat)) (i k v:Nat) (out:List (List PL)) (G:List Xz),c.drop i=rest->i+rest.length=c.length->rest.length<k->out.length+rest.length<1000000->
  ∃a f d,Xc E K 0 [0,3,5,6,7] x112_1 k ⟨vv r true v out.length i,SO m::V3 v out::G⟩=some (.exit 0,⟨a,SO m::V3 d (out++rest.map mo)::f⟩)/\FX a true d (out++rest.map mo).length
 |[],i,k,v,out,G,_,hi,hk,_=>by
  obtain⟨k,rfl⟩:∃j,k=j+1:=⟨k-1,by omega⟩;simp only[Zu,Z3]at hi;subst hi;obtain⟨a,g,h⟩:=yL (E:=E) (K:=K) (k:=k) (v:=v) (m:=m) (out:=out) l true G;refine⟨a,G,v,?_,?_⟩
  ·rw[ZT,ZN];exact g
  ·rw[ZT,ZN];exact h
 |x::rest,i,k,v,out,G,hd,hi,hk,hn=>by
  obtain⟨k,rfl⟩:∃j,k=j+1:=⟨k-1,by omega⟩;simp only[Zi]at hi hk hn;obtain⟨n,u⟩:=Xf hd;obtain⟨s,e⟩:=zk (K:=K) (k:=k) (v:=v) (out:=out) b l n q (o x (Zt n)) p (by omega) G;obtain⟨a,f,d,g,h⟩:=kU b l q o p rest (i+1) k (v+1) (out++[mo x]) s u (by omega) (by omega) (by simp;omega);have t:out++(x::rest).map mo=out++[mo x]++rest.map mo:=by simp
  rw[t,e];exact⟨a,f,d,g,h⟩
theorem CM {E:Xb}{K:Nat}(f:E.mode=md){C:PL}{m:List Nat}{t:List (List Nat)}(s:cw C t)(r:m.length=8)(y:∀x∈t,x.length=8)(H:t.length<900000)(B:∀x∈t,E.pure 38 [.agg (mo m),.agg (mo x)]=some (.one (.int .i64 (Wj m x)))):∀(rest:List (List Nat)) (i k v:Nat) (out:List (List PL)) (G:List Xz),t.drop i=rest->i+rest.length=t.length->rest.length<k->out.length+rest.length<900000->
  ∃j o n b a,Xc E K 0 [0,3,5,6,7] x112_1 k ⟨vv C false v out.length i,SO m::V3 v out::G⟩=some (.exit 0,⟨j,SO m::V3 n a::o⟩)/\FX j b n a.length/\
   ((b=true/\a=out++(T9 m rest).map mo)\/(b=false/\a=out++rest.map mo/\T9 m rest=rest++[m]))
 |[],i,k,v,out,G,_,hi,hk,_=>by
  obtain⟨k,rfl⟩:∃A,k=A+1:=⟨k-1,by omega⟩;simp only[Zu,Z3]at hi;subst hi;obtain⟨j,p,q⟩:=yL (E:=E) (K:=K) (k:=k) (v:=v) (m:=m) (out:=out) s false G;exact⟨j,G,v,false,out,p,q,.inr ⟨rfl,by simp,rfl⟩⟩
 |x::rest,i,k,v,out,G,hd,hi,hk,hn=>by
  obtain⟨k,rfl⟩:∃A,k=A+1:=⟨k-1,by omega⟩;simp only[Zi]at hi hk hn;obtain⟨w,z⟩:=Xf hd;have l:=Zt w;have x8:=y x l;have c:=B x l;rcases WA m x with h|h|h
  ·rw[h]at c;have g:x≠m:=fun e=>by subst e;rw[U0]at h;cases h
   obtain⟨u,e⟩:=zi (K:=K) (k:=k) (v:=v) (out:=out) f s w r x8 (by omega) (by omega) g c G;obtain⟨j,o,n,p,q⟩:=kU (K:=K) f s r y (by omega) rest (i+1) k (v+2) (out++[mo m,mo x]) u z (by omega) (by omega) (by simp;omega);have d:T9 m (x::rest)=m::x::rest:=by
    unfold T9;rw[if_neg (by rw[h];decide),if_neg g]
   refine⟨j,o,n,true,out++[mo m,mo x]++rest.map mo,by rw[e];exact p,q,.inl ⟨rfl,by rw[d];simp⟩⟩
  ·rw[h]at c;obtain⟨u,e⟩:=zj (K:=K) (k:=k) (v:=v) (out:=out) f s w r x8 (by omega) (by omega) c G;obtain⟨j,o,n,b,a,p,q,D⟩:=CM f s r y H B rest (i+1) k (v+1) (out++[mo x]) u z (by omega) (by omega) (by simp;omega);have d:T9 m (x::rest)=x::T9 m rest:=by
    conv=>lhs;unfold T9
    rw[if_pos h]
   refine⟨j,o,n,b,a,by rw[e];exact p,q,?_⟩;rcases D with⟨rfl,rfl⟩|⟨rfl,rfl,F⟩
   ·exact .inl ⟨rfl,by rw[d];simp⟩
   ·exact .inr ⟨rfl,by simp,by rw[d,F];rfl⟩
  ·rw[h]at c;have g:x=m:=(VQ (r.trans x8.symm) h).symm;obtain⟨u,e⟩:=zh (K:=K) (k:=k) (v:=v) (out:=out) f s w r x8 (by omega) (by omega) g c G;obtain⟨j,o,n,p,q⟩:=kU (K:=K) f s r y (by omega) rest (i+1) k (v+1) (out++[mo x]) u z (by omega) (by omega) (by simp;omega);have d:T9 m (x::rest)=x::rest:=by
    unfold T9;rw[if_neg (by rw[h];decide),if_pos g]
   refine⟨j,o,n,true,out++[mo x]++rest.map mo,by rw[e];exact p,q,.inl ⟨rfl,by rw[d];simp⟩⟩
theorem q9 {B:Xr}(g:Std B){lr:PL}{m:List Nat}{ls:List (List Nat)}(H:cw lr ls)(f:m.length=8)(u:∀x∈ls,x.length=8)(N:ls.length<800000):Xs B 112 [.one lr,.agg (mo m)] (.one (.Xv ((T9 m ls).map mo))):=by
 have F:X0 B fun E _=>∀x∈ls,E.pure 38 [.agg (mo m),.agg (mo x)]=some (.one (.int .i64 (Wj m x))):=Vg (p:=fun x E _=>E.pure 38 [.agg (mo m),.agg (mo x)]=some (.one (.int .i64 (Wj m x)))) fun x G=>(Pb g f (u x G)).Xi
 refine Xs.of (g.X6 _ _ rfl) ((F.and (g.Xi.and (X0.ge (ls.length+1)))).mono fun E K ⟨e1,k,M⟩=> ?_);obtain⟨L,J,O,b,v,d,⟨y,s,z⟩,t⟩:=CM (K:=K) k H f u (by omega) e1 ls 0 K 0 [] [] rfl (by omega) (by omega) (by simp;omega);have n:V3 0 []=⟨false,0,8,[],false,51⟩:=rfl;rw[n]at d;simp only[ZO]at t;have I:(Xm m).take 8=Xm m:=Zb (by rw[Xa];omega);have w:=Xo m;rcases t with⟨rfl,rfl⟩|⟨rfl,rfl,D⟩
 ·generalize e:(T9 m ls).map mo=res at *;have r:(pc res).take res.length=pc res:=Ui res (Zh _);have i:=fun h=>Ux 5 h res
  have c:=Wi res;simp only[vv,SO,V3,Zu]at d;simp(decide:=true)only[Xp,Xq,reduceIte,Nat.reduceAdd,x112,XS,Xa,f,d,y,s,z,r,i,c,Zh]
 ·rw[D];have j:ls.length<1000000:=by omega
  obtain⟨A,C,-,-⟩:=DC j;have o:pc (ls.map mo)++[Xm m]=pc ((ls++[m]).map mo):=by simp[pc,XS]
  have q:((ls++[m]).map mo).length=ls.length+1:=by simp
  have l:(ls.map mo).length=ls.length:=by simp
  generalize e:(ls++[m]).map mo=res at *;have r:(pc res).take (ls.length+1)=pc res:=Ui res (by omega);have i:=fun h=>Ux 5 h res
  have c:=Wi res;have a:=Wi (ls.map mo);rw[l]at a s;simp only[vv,SO,V3,Zu]at d;simp(decide:=true)only[Xp,Xq,VN,hS,reduceIte,Nat.reduceAdd,x112,XS,Xa,f,d,y,s,z,I,o,r,i,c,a,q,A,C,Zh]
def bF (all:List (List Nat)):List (List Nat)->List (List Nat)->List (List Nat)
 |[],acc=>acc
 |m::l,acc=>if Qo m all=true then bF all l acc else bF all l (T9 m acc)
abbrev Cw (l:List (List Nat)):Prop:=l.Pairwise fun x y=>Wj x y=.ofNat 1
theorem Oe (m:List Nat):∀(l:List (List Nat)) (x:List Nat),x∈T9 m l↔x=m\/x∈l
 |[],x=>by simp[T9]
 |y::l,x=>by
  have a:=Oe m l x;unfold T9;split
  ·rw[Zk,a,Zk];constructor
   ·rintro (h|h|h)
    ·exact .inr (.inl h)
    ·exact .inl h
    ·exact .inr (.inr h)
   ·rintro (h|h|h)
    ·exact .inr (.inl h)
    ·exact .inl h
    ·exact .inr (.inr h)
  ·split
   ·rename_i h;subst h;rw[Zk];exact⟨.inr,fun h=>h.elim .inl id⟩
   ·rw[Zk]
theorem fS (m:List Nat):∀(l:List (List Nat)),(T9 m l).length<=l.length+1
 |[]=>by simp[T9]
 |y::l=>by
  have a:=fS m l;unfold T9;split
  ·simp only[Zi];omega
  ·split
   ·simp only[Zi];omega
   ·simp only[Zi];omega
theorem oy {m:List Nat}(e:m.length=8):∀{l:List (List Nat)},(∀x∈l,x.length=8)->Cw l->Cw (T9 m l)
 |[],_,_=>by simp[T9]
 |y::l,g,h=>by
  obtain⟨i,k⟩:=Zr.1 h;have f:=g y (Ze ..);have b:∀x∈l,x.length=8:=fun x a=>g x (Zc _ a)
  unfold T9;split
  ·rename_i d;refine Zr.2 ⟨fun x a=> ?_,oy e b k⟩;rcases(Oe m l x).1 a with rfl|a
   ·exact(Sy y x).1 d
   ·exact i x a
  ·split
   ·exact h
   ·rename_i d j;refine Zr.2 ⟨fun x a=> ?_,h⟩;have c:Wj m y=.ofNat 1:=by
     rcases WA m y with h3|h3|h3
     ·exact h3
     ·exact absurd h3 d
     ·exact absurd (VQ (e.trans f.symm) h3).symm j
    rcases Zk.1 a with rfl|a
    ·exact c
    ·exact Pw (e.trans f.symm) (f.trans (b x a).symm) c (i x a)
theorem fa (b:List (List Nat)):∀(l a:List (List Nat)),(∀x∈l,x.length=8)->(∀x∈a,x.length=8)->Cw a->Cw (bF b l a)/\(∀x,x∈bF b l a↔x∈a\/(x∈l/\Qo x b=false))/\(bF b l a).length<=l.length+a.length
 |[],a,_,_,h=>⟨h,fun x=>by simp[bF],by simp[bF]⟩
 |m::l,a,j,ha,h=>by
  have c:∀x∈l,x.length=8:=fun x d=>j x (Zc _ d)
  unfold bF;split
  ·rename_i e;obtain⟨f,i,n⟩:=fa b l a c ha h;refine⟨f,fun x=> ?_,by simp only[Zi];omega⟩;rw[i,Zk];constructor
   ·rintro (h|⟨h,g⟩)
    ·exact .inl h
    ·exact .inr ⟨.inr h,g⟩
   ·rintro (h|⟨rfl|h,g⟩)
    ·exact .inl h
    ·rw[e]at g;cases g
    ·exact .inr ⟨h,g⟩
  ·rename_i e;have k:=j m (Ze ..);obtain⟨f,i,n⟩:=fa b l (T9 m a) c (fun x d=>by
    rcases(Oe m a x).1 d with rfl|d
    ·exact k
    ·exact ha x d) (oy k ha h)
   refine⟨f,fun x=> ?_,?_⟩
   ·rw[i,Oe,Zk];constructor
    ·rintro ((rfl|h)|⟨h,g⟩)
     ·exact .inr ⟨.inl rfl,by simpa using e⟩
     ·exact .inl h
     ·exact .inr ⟨.inr h,g⟩
    ·rintro (h|⟨rfl|h,g⟩)
     ·exact .inl (.inr h)
     ·exact .inl (.inl rfl)
     ·exact .inr ⟨h,g⟩
   ·have:=fS m a;simp only[Zi];omega
theorem fK {m:List Nat}{l:List (List Nat)}:Qo m l=false↔∀d∈l,X9 d m=true->d=m:=by
 unfold Qo;rw[List.any_eq_false];constructor
 ·intro h d b a;have:=h d b;rw[a]at this;simpa using this
 ·intro h d b;by_cases a:X9 d m=true
  ·simp[h d b a]
  ·simp[a]
theorem xO {b:List (List Nat)}(c:∀m∈b,m.length=8):bF b b []=(P8 b).reverse:=by
 obtain⟨r,o,-⟩:=fa b b [] c (fun _ h=>by cases h) List.Pairwise.nil;obtain⟨s,t,p,j⟩:=jv c;have e:(bF b b []).reverse=P8 b:=by
  refine tF (fun m l=> ?_) (fun m l=>c m (j m l)) (List.pairwise_reverse.2 r) s fun x=> ?_
  ·rcases(o m).1 (List.mem_reverse.1 l)with h|h
   ·cases h
   ·exact c m h.1
  ·rw[List.mem_reverse,o];constructor
   ·rintro (h|⟨h,g⟩)
    ·cases h
    ·obtain⟨d,f,a⟩:=p x h;have:=fK.1 g d (j d f) a
     rwa[this]at f
   ·intro h;refine .inr ⟨j x h,fK.2 fun d f a=> ?_⟩;obtain⟨e,n,i⟩:=p d f;have q:=c e (j e n);have k:=c d f;have x8:=c x (j x h);have:=t e n x h (NH (q.trans k.symm) (k.trans x8.symm) i a);subst this;exact(Nh (x8.trans k.symm) i a).symm
 rw[<-e,List.reverse_reverse]
abbrev iC (lr:PL)(d:DL)(i:Nat):List (Nat×DV):=[(0,.one (.p lr)),(3,.one d),(4,.one (.p (.int .i64 (.ofNat i))))]
theorem sE {E:Xb}{K k i:Nat}(f:E.mode=md){c:PL}{m:List Nat}{b:List (List Nat)}(l:cw c b)(g:b[i]? =some m)(j:m.length=8)(u:b.length<1000000)(p:E.pure 111 [.agg (mo m),.one c]=some (.one (.bool false)))(d:DL)(H:List Xz):
  Xc E K 0 [0,3,4] x70_1 (k+1) ⟨iC c d i,H⟩=Xc E K 0 [0,3,4] x70_1 k ⟨iC c d (i+1),H⟩:=by
 have e:i<b.length:=(Zd.mp g).1;have o:(b.map mo)[i]? =some (mo m):=by rw[Zx,g];rfl
 have r:=fun(q:HF) (s:IntKind)=>l.idx (h:=q) (k:=s) (sz:=8) o (by rw[Xy];exact j)
 have a:=l.len;have n:Xe .i64 (.ofNat (i+1))=.ofNat (i+1):=wrap_i64 (by omega);have t:(Xm m).take 8=Xm m:=Zb (by rw[Xa];omega);rw[Xc];simp(decide:=true)only[Xp,Xq,WR,reduceIte,x70_1,f,XW,a,Zy,e,r,p,n,t,j,XS,Xa,XK,XN]
theorem Dg {E:Xb}{K k i:Nat}(e:E.mode=md){c r j:PL}{m:List Nat}{b:List (List Nat)}(l:cw c b)(f:b[i]? =some m)(g:m.length=8)(x:b.length<1000000)(q:E.pure 111 [.agg (mo m),.one c]=some (.one (.bool true)))(s:E.pure 112 [.one r,.agg (mo m)]=some (.one j))(H:List Xz):
  Xc E K 0 [0,3,4] x70_1 (k+1) ⟨iC c (.p r) i,H⟩=Xc E K 0 [0,3,4] x70_1 k ⟨iC c (.p j) (i+1),H⟩:=by
 have d:i<b.length:=(Zd.mp f).1;have o:(b.map mo)[i]? =some (mo m):=by rw[Zx,f];rfl
 have u:=fun(t:HF) (v:IntKind)=>l.idx (h:=t) (k:=v) (sz:=8) o (by rw[Xy];exact g)
 have a:=l.len;have n:Xe .i64 (.ofNat (i+1))=.ofNat (i+1):=wrap_i64 (by omega);have w:(Xm m).take 8=Xm m:=Zb (by rw[Xa];omega);rw[Xc];simp(decide:=true)only[Xp,Xq,WR,reduceIte,x70_1,e,XW,a,Zy,d,u,q,s,n,w,g,XS,Xa,XK,XN]
theorem Bb {E:Xb}{K k i:Nat}(c:E.mode=md){g f:PL}{m:List Nat}{e:List (List Nat)}(s:cw g e)(q:e[i]? =some m)(j:m.length=8)(x:e.length<1000000)(n:E.pure 111 [.agg (mo m),.one g]=some (.one (.bool true)))(o:E.pure 112 [.one (.Xv []),.agg (mo m)]=some (.one f)):
  ∃H,Xc E K 0 [0,3,4] x70_1 (k+1) ⟨iC g (.own 0 0 0 0) i,[⟨false,0,8,[],false,51⟩]⟩=Xc E K 0 [0,3,4] x70_1 k ⟨iC g (.p f) (i+1),H⟩:=by
 have b:i<e.length:=(Zd.mp q).1;have u:(e.map mo)[i]? =some (mo m):=by rw[Zx,q];rfl
 have r:=fun(v:HF) (w:IntKind)=>s.idx (h:=v) (k:=w) (sz:=8) u (by rw[Xy];exact j)
 have a:=s.len;have l:Xe .i64 (.ofNat (i+1))=.ofNat (i+1):=wrap_i64 (by omega);have t:(Xm m).take 8=Xm m:=Zb (by rw[Xa];omega);have d:f.scalar=true\/f.scalar=false:=by cases f.scalar<;>simp
 rcases d with d|d
 ·apply Exists.intro;rw[Xc];simp(decide:=true)only[Xp,Xq,WR,reduceIte,x70_1,c,XW,a,Zy,b,r,n,o,l,t,j,XS,Xa,XK,XN,d];rfl
 ·apply Exists.intro;rw[Xc];simp(decide:=true)only[Xp,Xq,WR,reduceIte,x70_1,c,XW,a,Zy,b,r,n,o,l,t,j,XS,Xa,XK,XN,d];rfl
inductive C1 (E:Xb)(lr:PL)(all:List (List Nat)):List (List Nat)->List (List Nat)->Prop
 |nil (acc:List (List Nat)):C1 E lr all [] acc
 |skip {m:List Nat} {l acc:List (List Nat)} (hb:Qo m all=true) (h1:E.pure 111 [.agg (mo m),.one lr]=some (.one (.bool false))) (h:C1 E lr all l acc):C1 E lr all (m::l) acc
 |ins {m:List Nat} {l acc:List (List Nat)} (hb:Qo m all=false) (h1:E.pure 111 [.agg (mo m),.one lr]=some (.one (.bool true))) (h2:E.pure 112 [.one (.Xv (acc.map mo)),.agg (mo m)]=some (.one (.Xv ((T9 m acc).map mo)))) (h:C1 E lr all l (T9 m acc)):C1 E lr all (m::l) acc
theorem kH {B:Xr}(f:Std B){lr:PL}{b:List (List Nat)}(j:cw lr b)(h:∀x∈b,x.length=8)(n:b.length<300000):∀(l a:List (List Nat)),(∀x∈l,x.length=8)->(∀x∈a,x.length=8)->l.length+a.length<700000->X0 B fun E _=>C1 E lr b l a
 |[],a,_,_,_=>X0.of fun _ _=>.nil a
 |m::l,a,k,ha,hlen=>by
  have i:=k m (Ze ..);have c:∀x∈l,x.length=8:=fun x d=>k x (Zc _ d)
  simp only[Zi]at hlen;have e:=BL f i j (by omega) h;cases g:Qo m b with
  |true=>
   rw[g]at e;exact(e.Xi.and (kH f j h n l a c ha (by omega))).mono fun E K ⟨e1,e2⟩=>.skip g e1 e2
  |false=>
   rw[g]at e;have o:=q9 f (lr:=.Xv (a.map mo)) (ls:=a) .Xv i ha (by omega);refine(e.Xi.and (o.Xi.and (kH f j h n l (T9 m a) c (fun x d=> ?_) ?_))).mono fun E K ⟨e1,e2,e3⟩=>.ins g e1 e2 e3
   ·rcases(Oe m a x).1 d with rfl|d
    ·exact i
    ·exact ha x d
   ·have:=fS m a;omega
theorem EU {E:Xb}{K:Nat}(f:E.mode=md){t:PL}{a:List (List Nat)}(u:cw t a)(w:∀x∈a,x.length=8)(z:a.length<300000){l b:List (List Nat)}(h:C1 E t a l b):∀(i k:Nat) (H:List Xz),a.drop i=l->i+l.length=a.length->l.length<k->
  ∃v,Xc E K 0 [0,3,4] x70_1 k ⟨iC t (.p (.Xv (b.map mo))) i,H⟩=some (.exit 0,⟨v,H⟩)/\Xh v 3=some (.one (.p (.Xv ((bF a l b).map mo)))):=by
 induction h with
 |nil b=>
  intro i k H _ c j;obtain⟨k,rfl⟩:∃g,k=g+1:=⟨k-1,by omega⟩;simp only[Zu,Z3]at c;subst c;have e:=u.len;apply VM
  ·rw[Xc];simp only[Xp,Xq,reduceIte,Nat.reduceEqDiff,x70_1,e,Zy,Zv];rfl
  ·simp only[Xp,reduceIte,Nat.reduceEqDiff,bF]
 |@skip m l b q o h s=>
  intro i k H r c j;obtain⟨k,rfl⟩:∃g,k=g+1:=⟨k-1,by omega⟩;simp only[Zi]at c j;obtain⟨d,n⟩:=Xf r;rw[sE f u d (w m (Zt d)) (by omega) o _ H,show bF a (m::l) b=bF a l b by conv=>lhs;unfold bF;rw[if_pos q]];exact s (i+1) k H n (by omega) (by omega)
 |@ins m l b q o y h s=>
  intro i k H r c j;obtain⟨k,rfl⟩:∃g,k=g+1:=⟨k-1,by omega⟩;simp only[Zi]at c j;obtain⟨d,n⟩:=Xf r;rw[Dg f u d (w m (Zt d)) (by omega) o y H,show bF a (m::l) b=bF a l (T9 m b)by conv=>lhs;unfold bF;rw[if_neg (by rw[q];decide)]];exact s (i+1) k H n (by omega) (by omega)
theorem xN {E:Xb}{K:Nat}(c:E.mode=md){g:PL}{a:List (List Nat)}(f:cw g a)(r:∀x∈a,x.length=8)(y:a.length<300000):∀{l:List (List Nat)},C1 E g a l []->∀(i k:Nat),a.drop i=l->i+l.length=a.length->l.length<k->
  ∃b u,Xc E K 0 [0,3,4] x70_1 k ⟨iC g (.own 0 0 0 0) i,[⟨false,0,8,[],false,51⟩]⟩=some (.exit 0,⟨b,u⟩)/\
   (Xh b 3=some (.one (.p (.Xv ((bF a l []).map mo))))\/(Xh b 3=some (.one (.own 0 0 0 0))/\u=[⟨false,0,8,[],false,51⟩]/\bF a l []=[]))
 |[],_,i,k,_,hi,hk=>by
  obtain⟨k,rfl⟩:∃t,k=t+1:=⟨k-1,by omega⟩;simp only[Zu,Z3]at hi;subst hi;have d:=f.len;have :∃b,Xc E K 0 [0,3,4] x70_1 (k+1) ⟨iC g (.own 0 0 0 0) a.length,[⟨false,0,8,[],false,51⟩]⟩=some (.exit 0,⟨b,[⟨false,0,8,[],false,51⟩]⟩)/\Xh b 3=some (.one (.own 0 0 0 0)):=by
   apply VM
   ·rw[Xc];simp only[Xp,Xq,reduceIte,Nat.reduceEqDiff,x70_1,d,Zy,Zv];rfl
   ·simp only[Xp,reduceIte,Nat.reduceEqDiff]
  obtain⟨b,j,n⟩:=this;exact⟨b,_,j,.inr ⟨n,rfl,rfl⟩⟩
 |m::l,h,i,k,hd,hi,hk=>by
  obtain⟨k,rfl⟩:∃t,k=t+1:=⟨k-1,by omega⟩;simp only[Zi]at hi hk;obtain⟨o,v⟩:=Xf hd;have w:=r m (Zt o);cases h with
  |skip s q h=>
   rw[sE c f o w (by omega) q _ _,show bF a (m::l) []=bF a l []by conv=>lhs;unfold bF;rw[if_pos s]];exact xN c f r y h (i+1) k v (by omega) (by omega)
  |ins s q z h=>
   obtain⟨H,e⟩:=Bb (K:=K) (k:=k) c f o w (by omega) q z;obtain⟨b,j,n⟩:=EU (K:=K) c f r y h (i+1) k H v (by omega) (by omega);rw[e,show bF a (m::l) []=bF a l (T9 m [])by conv=>lhs;unfold bF;rw[if_neg (by rw[s];decide)]];exact⟨b,H,j,.inl n⟩
theorem kG {B:Xr}(e:Std B){lr:PL}{a:List (List Nat)}(g:cw lr a)(c:∀m∈a,m.length=8)(l:a.length<100000):Xs B 70 [.one lr] (.one (.Xv ((P8 a).reverse.map mo))):=by
 rw[<-xO c];refine Xs.of (e.X6 _ _ rfl) (((kH e g c (by omega) a [] c (fun _ h=>by cases h) (by simp;omega)).and (e.Xi.and (X0.ge (a.length+1)))).mono fun E K ⟨e1,f,k⟩=> ?_);obtain⟨j,i,d,b⟩:=xN (K:=K) f g c (by omega) e1 0 K rfl (by omega) (by omega);simp only[iC]at d;generalize bF a a []=res at *;rcases b with b|⟨b,rfl,rfl⟩
 ·simp(decide:=true)only[Xp,Xq,reduceIte,x70,d,b]
 ·simp(decide:=true)only[Xp,Xq,reduceIte,x70,d,b]
abbrev Dj (L lo:PL)(v n i:Nat):List (Nat×DV):=[(0,.one (.p L)),(1,.one (.p lo)),(5,.one (.own 0 v 0 n)),(6,.one (.p (.int .i64 (.ofNat i))))]
theorem Bc {E:Xb}{K k i v:Nat}(d:E.mode=md){e L p x y z A:PL}{m:List Nat}{b:List PL}{out:List (List PL)}(g:Sl L (Xu b))(f:b[i]? =some p)(q:m.length=8)(F:b.length<1000000)(r:out.length<1000000)(n:E.pure 29 [.one p,.one e]=some (.XY [.agg (x::y::z::A::mo m),.one (.bool false)]))(G:List Xz):
  ∃j,Xc E K 0 [0,1,5,6] x23_1 (k+1) ⟨Dj L e v out.length i,V3 v out::G⟩=Xc E K 0 [0,1,5,6] x23_1 k ⟨Dj L e v (out).length (i+1),V3 v (out)::j⟩:=by
 have c:i<b.length:=(Zd.mp f).1;have t:=fun(o:HF) (u:IntKind)=>g.idx (h:=o) (k:=u) (sz:=1) (XI f) rfl
 have a:=g.len;have l:Xe .i64 (.ofNat (i+1))=.ofNat (i+1):=wrap_i64 (by omega);have H:(Xm m).take 8=Xm m:=Zb (by rw[Xa];omega);have B:(Xm m).drop 8=[]:=Zj (by rw[Xa];omega);have w:=Xo m;obtain⟨C,D,-,-⟩:=DC r;have s:=Wi out;apply Exists.intro;rw[Xc];simp(decide:=true)only[Xp,Xq,WR,hS,V3,reduceIte,Nat.reduceLeDiff,Nat.reduceAdd,x23_1,d,XW,a,XH,c,t,n,l,q,XS,Xa,Zl];rfl
theorem Di {E:Xb}{K k i v:Nat}(d:E.mode=md){f L p z A B C:PL}{m:List Nat}{b:List PL}{out:List (List PL)}(j:Sl L (Xu b))(g:b[i]? =some p)(t:m.length=8)(H:b.length<1000000)(u:out.length<1000000)(r:E.pure 29 [.one p,.one f]=some (.XY [.agg (z::A::B::C::mo m),.one (.bool true)]))(G:List Xz):
  ∃l,Xc E K 0 [0,1,5,6] x23_1 (k+1) ⟨Dj L f v out.length i,V3 v out::G⟩=Xc E K 0 [0,1,5,6] x23_1 k ⟨Dj L f (v+1) (out++[mo m]).length (i+1),V3 (v+1) (out++[mo m])::l⟩:=by
 have c:i<b.length:=(Zd.mp g).1;have x:=fun(s:HF) (y:IntKind)=>j.idx (h:=s) (k:=y) (sz:=1) (XI g) rfl
 have a:=j.len;have n:Xe .i64 (.ofNat (i+1))=.ofNat (i+1):=wrap_i64 (by omega);have D:(Xm m).take 8=Xm m:=Zb (by rw[Xa];omega);have F:(Xm m).drop 8=[]:=Zj (by rw[Xa];omega);have w:=Xo m;obtain⟨o,q,-,-⟩:=DC u;have e:=Wi out;rw[show V3 (v+1) (out++[mo m])=⟨false,v+1,8,pc out++[Xm m],false,51⟩by simp[V3,pc,XS]];apply Exists.intro;rw[Xc];simp(decide:=true)only[Xp,Xq,WR,hS,V3,reduceIte,Nat.reduceLeDiff,Nat.reduceAdd,x23_1,d,XW,a,XH,c,x,r,n,o,q,D,t,e,XS,Xa,Zl,Zq];rfl
inductive Ej (E:Xb)(lo:PL):List PL->List (List Nat)->Prop
 |nil:Ej E lo [] []
 |skip {p t1 t2 t3 t4:PL} {m:List Nat} {ls:List PL} {ms:List (List Nat)} (hm:m.length=8) (hc:E.pure 29 [.one p,.one lo]=some (.XY [.agg (t1::t2::t3::t4::mo m),.one (.bool false)])) (h:Ej E lo ls ms):Ej E lo (p::ls) ms
 |new {p t1 t2 t3 t4:PL} {m:List Nat} {ls:List PL} {ms:List (List Nat)} (hm:m.length=8) (hc:E.pure 29 [.one p,.one lo]=some (.XY [.agg (t1::t2::t3::t4::mo m),.one (.bool true)])) (h:Ej E lo ls ms):Ej E lo (p::ls) (m::ms)
theorem sF {B:Xr}(r:Std B){v:PL}{o:List (List Int)}(w:S6 v o)(u:VE o)(j:o.length<1000000):∀{n:List PL} {a:List (List Qm)},T6 n a->(∀f∈a,f.length<100000)->(X0 B fun E _=>Ej E v n (aw o a))/\∀m∈aw o a,XL m
 |[],_,.nil,_=>⟨X0.of fun _ _=>.nil,fun _ h=>by cases h⟩
 |p::n,f::a,.cons hp h,hl=>by
  obtain⟨k,l⟩:=sF r w u j h fun f i=>hl f (Zc _ i)
  obtain⟨c,b,q,d⟩:=Uh r w u j hp (hl f (Ze ..));cases i:Wl o f with
  |none=>
   simp only[i]at d;obtain⟨rfl,rfl⟩:=d;have e:aw o (f::a)=aw o a:=by unfold aw;rw[i];cases a<;>rfl
   rw[e];exact⟨(k.and q.Xi).mono fun E K ⟨e1,e2⟩=>.skip (t1:=.bool false) (t2:=.XJ) (t3:=.bool false) (t4:=.XJ) (m:=To) rfl e2 e1,l⟩
  |some s=>
   simp only[i]at d;obtain⟨rfl,d⟩:=d;obtain⟨x,y,z,A,rfl⟩:=d.eight;have t:=d.Pk;have e:aw o (f::a)=s.2::aw o a:=by conv=>lhs;unfold aw;rw[i]
   rw[e];refine⟨(k.and q.Xi).mono fun E K ⟨e1,e2⟩=>.new t.1 e2 e1,fun m g=> ?_⟩;rcases Zk.1 g with rfl|g
   ·exact t
   ·exact l m g
theorem EV {E:Xb}{K:Nat}(g:E.mode=md){x L:PL}{a:List PL}(y:Sl L (Xu a))(N:a.length<500000):∀{rest:List PL} {b:List (List Nat)},Ej E x rest b->∀(i k v:Nat) (out:List (List PL)) (G:List Xz),a.drop i=rest->i+rest.length=a.length->rest.length<k->out.length+rest.length<1000000->
  ∃c A z,Xc E K 0 [0,1,5,6] x23_1 k ⟨Dj L x v out.length i,V3 v out::G⟩=some (.exit 0,⟨c,V3 z (out++b.map mo)::A⟩)/\Xh c 5=some (.one (.own 0 z 0 (out++b.map mo).length)):=by
 intro rest b h;induction h with
 |nil=>
  intro i k v out G _ d l _;obtain⟨k,rfl⟩:∃j,k=j+1:=⟨k-1,by omega⟩;simp only[Zu,Z3]at d;subst d;have f:=y.len;rw[ZT,ZN];have :∃c,Xc E K 0 [0,1,5,6] x23_1 (k+1) ⟨Dj L x v out.length a.length,V3 v out::G⟩=some (.exit 0,⟨c,V3 v out::G⟩)/\Xh c 5=some (.one (.own 0 v 0 out.length)):=by
   apply VM
   ·rw[Xc];simp only[Xp,Xq,reduceIte,Nat.reduceEqDiff,x23_1,f,XH,Zv];rfl
   ·simp only[Xp,reduceIte,Nat.reduceEqDiff]
  obtain⟨c,C,D⟩:=this;exact⟨c,G,v,C,D⟩
 |@skip p H I J M m F b t r h w=>
  intro i k v out G s d l u;obtain⟨k,rfl⟩:∃j,k=j+1:=⟨k-1,by omega⟩;simp only[Zi]at d l u;obtain⟨q,o⟩:=Xf s;obtain⟨n,e⟩:=Bc (K:=K) (k:=k) (v:=v) (out:=out) g y q t (by omega) (by omega) r G;rw[e];exact w (i+1) k v out n o (by omega) (by omega) (by omega)
 |@new p H I J M m F b t r h w=>
  intro i k v out G s d l u;obtain⟨k,rfl⟩:∃j,k=j+1:=⟨k-1,by omega⟩;simp only[Zi]at d l u;obtain⟨q,o⟩:=Xf s;obtain⟨n,e⟩:=Di (K:=K) (k:=k) (v:=v) (out:=out) g y q t (by omega) (by omega) r G;have B:out++(m::b).map mo=out++[mo m]++b.map mo:=by simp
  rw[B,e];exact w (i+1) k (v+1) (out++[mo m]) n o (by omega) (by omega) (by simp;omega)
theorem qp {B:Xr}(d:Std B){q L:PL}{o:List (List Int)}(A:S6 q o)(y:VE o)(j:o.length<1000000){g:List PL}{a:List (List Qm)}(r:Sl L (Xu g))(b:T6 g a)(w:∀f∈a,f.length<100000)(G:a.length<50000):Xs B 23 [.one L,.one q] (.one (.Xv ((P8 (aw o a)).reverse.map mo))):=by
 obtain⟨t,u⟩:=sF d A y j b w;have x:g.length=a.length:=b.length;have i:=kG d (lr:=.Xv ((aw o a).map mo)) .Xv (fun m i=>(u m i).1) (by have:=dW o a;omega);refine Xs.of (d.X6 _ _ rfl) ((t.and (i.Xi.and (d.Xi.and (X0.ge (g.length+1))))).mono fun E K ⟨s,e1,c,F⟩=> ?_);obtain⟨D,C,H,e,p⟩:=EV (K:=K) c r (by omega) s 0 K 0 [] [] rfl (by omega) (by omega) (by simp;omega);have n:=r.len;rw[ZO]at e p;have k:V3 0 []=⟨false,0,8,[],false,51⟩:=rfl;rw[k]at e;generalize (P8 (aw o a)).reverse.map mo=rs at *;generalize (aw o a).map mo=res at *;have z:(pc res).take res.length=pc res:=Ui res (Zh _);have v:=fun h=>Ux 5 h res
 have l:=Wi res;simp only[Dj,V3,Zu]at e;simp(decide:=true)only[Xp,Xq,WR,reduceIte,Nat.reduceAdd,x23,c,XW,e,p,e1,z,v,l,Zh]
end Go.Proofs.YtefpgecinlekpaaGreat
