/- Reference: sums of vectors, in cells. -/
import Derived.Test.YtidginchkjhobaaGreatGof
import Derived.Test.YtidginchkjhobaaGreatVec
set_option maxHeartbeats 16000000
set_option maxRecDepth 100000
namespace Go.Ev
open Go.Proofs.YtidginchkjhobaaGreat
inductive Ci (E:Xa)(P:PL):N'->N'->N'->Prop
 |nil:Ci E P [] [] []
 |cons {s t y z:PL} {ss ts zs:N'} (h1:E.pure 11 [.one P,.one t]=some (.one y)) (h2:E.pure 10 [.one s,.one y]=some (.one z)) (h:Ci E P ss ts zs):Ci E P (s::ss) (t::ts) (z::zs)
abbrev Lr (P T:PL)(v n i m:Nat):List (Nat×DV):=[(0,.one (.own 0 v 0 n)),(1,La4 P),(2,La4 T),(7,.one (.own 1 i 0 m)),(8,La1 i)]
theorem Jq {E}{K}(q:E.mode=md){P T}{a x}(U:Sl T (Xf x)){v}(Y:a.length<100000):∀b d f i k o G,Ci E P b d f->a.drop i=b->x.drop i=d->i+b.length=a.length->o.length=i->b.length<k->
  ∃c u,Xb E K 0 [0,1,2,7,8] x27_1 k ⟨Lr P T v a.length i o.length,TF v a::TF i o::G⟩=some (.exit 0,⟨c,TF v a::TF a.length (o++f)::u⟩)/\Xi c 7=some (.one (.own 1 a.length 0 a.length)):=by
 intro b;induction b with
 |nil=>
  intro d f i k o G h _ _ g N w;rcases k with _|k;omega;cases h;simp only[Zr,ZU]at g;subst g;rw[ZJ];have :∃c,Xb E K 0 [0,1,2,7,8] x27_1 (k+1) ⟨Lr P T v a.length a.length o.length,TF v a::TF a.length o::G⟩=some (.exit 0,⟨c,TF v a::TF a.length o::G⟩)/\Xi c 7=some (.one (.own 1 a.length 0 o.length)):=by
   apply VW
   ·rw[Xb];simp only[Xo,Xs,reduceIte,Nat.reduceEqDiff,x27_1,Zx];rfl
   ·simp only[Xo,reduceIte,Nat.reduceEqDiff]
  grind
 |cons s b O=>
  intro d f i k o G h L m g N w;rcases k with _|k;omega;simp only[Zj]at g w;cases h with
  |@cons _ t y z _ d f I J h=>
  obtain⟨F,D⟩:=Xh L;obtain⟨H,l⟩:=Xh m;have n:i<a.length:=by omega
  have Q:(pc (Xf a))[i]? =some [.p s]:=Q6 F;have R:=fun(M:HF) (S:IntKind)=>U.idx (h:=M) (k:=S) (sz:=1) (XK H) rfl
  have A:Xd .i64 (.ofNat (i+1))=.ofNat (i+1):=wrap_i64 (by omega);have B:(o.length+1)*24<=lim:=by unfold lim;omega
  have C:o.length+1<=9223372036854775807:=by omega
  have this:∃j,Xb E K 0 [0,1,2,7,8] x27_1 (k+1) ⟨Lr P T v a.length i o.length,TF v a::TF i o::G⟩=Xb E K 0 [0,1,2,7,8] x27_1 k ⟨Lr P T v a.length (i+1) (o++[z]).length,TF v a::TF (i+1) (o++[z])::j⟩:=by
   have V:TF (i+1) (o++[z])=⟨false,i+1,1,pc (Xf o)++[[.p z]],false,33⟩:=by simp[TF,Xf,pc]
   rw[V,Zn,ZK];apply Exists.intro;rw[Xb];simp+decide only[Xo,Xs,VD,Vv,rq,reduceIte,Nat.reduceEqDiff,Nat.reduceLeDiff,Nat.reduceAdd,x27_1,q,X3,WB,Xt,n,Q,R,I,J,A,B,C];rfl
  obtain⟨j,e⟩:=this;obtain⟨c,u,W,X⟩:=O d f (i+1) k (o++[z]) j h D l (by omega) (by simp;omega) (by omega)
  grind
theorem aX {B}(k:Std B){P T}{ss ts zs}(u:Sl T (Xf ts)){v}(r:ss.length<100000)(h:XT B fun E _=>Ci E P ss ts zs):XT B fun E _=>∀H i,H[i]? =some (TF v ss)->UL E 27 [.one (.own i v 0 ss.length),La4 P,La4 T] H=some (.one (.own H.length ss.length 0 ss.length),H.set i (TF v ss)++[TF ss.length zs]):=by
 obtain⟨d,j,n,G,rfl,rfl⟩:=Uu.eE (B:=B) (f:=27) (ad:=[.one (.own 0 v 0 ss.length),La4 P,La4 T]) (H:=[TF v ss]) (P:=fun d j=>∃G,d=.one (.own 1 ss.length 0 ss.length)/\j=TF v ss::TF ss.length zs::G) (k.Wa _ _ rfl) ((h.and (k.Xk.and (XT.ge (ss.length+1)))).mono fun E K ⟨m,b,x⟩=>by
  obtain⟨w,l,g,t⟩:=Jq (K:=K) b u (v:=v) r ss ts zs 0 K [] [] m rfl rfl (by omega) rfl (by omega);rw[ZB]at g;have c:pc (Xf [])=[]:=rfl;simp only[TF,Lr,c,Zr]at g;refine⟨_,_,?_,l,rfl,rfl⟩;simp+decide only[Xo,Xs,Vv,reduceIte,Nat.reduceAdd,x27,g,t])
 exact n.Xk.mono fun E K e H i o=>by
  unfold UL;have s:=RR zs;have q:=RR ss;have a:Nat.beq v v=true:=Yw v;simp only[TH,Qr,List.all_cons,List.all_nil,RC,cond_true,o,S8,e,List.getElem?_cons_zero,s,q,a,Bool.and_true,Bool.not_false]
theorem mD {B}(h:Std B){m}(o:XA m):Xv B 122 [.agg (mo m)] (.one (.bool true)):=by
 obtain⟨l,j⟩:=o;obtain⟨a,b,c,d,e,f,g,i,rfl⟩:=eight l;simp only[Zk,ZQ,or_false,forall_eq_or_imp,forall_eq]at j;obtain⟨I,J,L,M,N,O,P,Q⟩:=j;refine Xv.of (h.Wa _ _ rfl) ((h.Xk.and (XT.ge 9)).mono fun E K ⟨p,R⟩=> ?_);have q:¬65535<a:=by omega
 have r:¬65535<b:=by omega
 have s:¬65535<c:=by omega
 have t:¬65535<d:=by omega
 have u:¬65535<e:=by omega
 have v:¬65535<f:=by omega
 have w:¬65535<g:=by omega
 have x:¬65535<i:=by omega
 have y:Xd .i64 (.ofNat 1)=.ofNat 1:=rfl;have z:Xd .i64 (.ofNat 2)=.ofNat 2:=rfl;have A:Xd .i64 (.ofNat 3)=.ofNat 3:=rfl;have C:Xd .i64 (.ofNat 4)=.ofNat 4:=rfl;have D:Xd .i64 (.ofNat 5)=.ofNat 5:=rfl;have F:Xd .i64 (.ofNat 6)=.ofNat 6:=rfl;have G:Xd .i64 (.ofNat 7)=.ofNat 7:=rfl;have H:Xd .i64 (.ofNat 8)=.ofNat 8:=rfl;obtain⟨k,n⟩:∃k,K=k+9:=⟨K-9,by omega⟩;simp only[Xo,Xs,reduceIte,Nat.reduceEqDiff,Nat.reduceLeDiff,Nat.reduceAdd,x122,x122_1,mo];rw[n];simp only[Xb,Xo,Xs,reduceIte,Nat.reduceEqDiff,Nat.reduceLeDiff,Nat.reduceLT,Nat.reduceAdd,Nat.reduceMul,Nat.not_lt_zero,q,r,s,t,u,v,w,x,y,z,A,C,D,F,G,H]
theorem lD:∀{ws},Canon ws->ws≠[]->∃w,ws[ws.length-1]? =some w/\w≠0
 |[],_,h=>absurd rfl h
 |[w],h,_=>⟨w,rfl,h⟩
 |_::v::ws,h,_=>by
  obtain⟨x,a,b⟩:=lD (ws:=v::ws) h (by simp);exact⟨x,by simpa using a,b⟩
theorem fP {B}(i:Std B){c}{z}(j:Tc c z)(p:aC z):Xv B 159 [.agg c] (.one (.bool true)):=by
 obtain⟨m,rfl,d⟩:=j;unfold aC at p;refine Xv.of (i.Wa _ _ rfl) (XT.of fun K n=> ?_);by_cases h0:z=0
 ·subst h0;have g:(Xe (0:Int).natAbs).length=0:=by rw[show(0:Int).natAbs=0 from rfl,Vc];rfl
  have b:¬(0:Int)<0:=by omega
  simp only[Xo,Xs,reduceIte,Nat.reduceEqDiff,Nat.reduceLeDiff,Nat.reduceAdd,x159,d.len,g,b]
 ·have a:Xe z.natAbs≠[]:=by
   rw[UZ (by omega)];simp
  obtain⟨w,b,f⟩:=lD (WO z.natAbs) a;have o:¬(Xe z.natAbs).length=0:=fun h=>a (YC h)
  have e:Xd .i64 (Int.ofNat (Xe z.natAbs).length-Int.ofNat 1)=.ofNat ((Xe z.natAbs).length-1):=X9 (by omega) (by omega);have q:=fun(l:HF) (r:IntKind)=>d.idx (h:=l) (k:=r) b
  simp only[Xo,Xs,reduceIte,Nat.reduceEqDiff,Nat.reduceLeDiff,Nat.reduceAdd,x159,d.len,o,e,q,f]
theorem DA {B:Xq}(a:Std B){c d:N'}{x y:Nat}(j:Tc c x)(k:Tc d y)(h:aC x)(i:aC y):Xv B 160 [.agg c,.agg d] (.one (.int .i64 (gH x y))):=by
 obtain⟨m,rfl,f⟩:=j;obtain⟨n,rfl,g⟩:=k;unfold aC at h i;rw[Z3]at h i f g;have e:=OA a f g (Xr x) (Xr y) (WO x) (WO y) (by omega) (by omega);rw[Xn,Xn]at e;have l:¬(x:Int)<0:=by omega
 have o:¬(y:Int)<0:=by omega
 refine Xv.of (a.Wa _ _ rfl) ((e.Xk.and a.Xk).mono fun E K ⟨e1,b⟩=> ?_);simp only[Xo,Xs,reduceIte,Nat.reduceEqDiff,Nat.reduceLeDiff,Nat.reduceAdd,x160,l,o,b,X3,e1]
theorem td {B}(f:Std B){c}{x}(J:Rw c x)(u:Sq x):Xv B 121 [.agg c] (.one (.bool true)):=by
 obtain⟨n,a,d,b,rfl,s,h⟩:=J;have v:aC x.num:=by unfold aC;have:=u.1;omega
 have w:aC (x.den:Int):=by unfold aC;rw[Z3];have:=u.2;omega
 have H:=fP f s v;have I:=fP f h w;have p:=NX f h;have M:mi (x.den:Int)=.ofNat 1:=by
  have:=x.den_pos;unfold mi;rw[if_neg (by omega),if_neg (by omega)]
 rw[M]at p;obtain⟨e,q,j⟩:=sO f s h v w;have L:Nat.gcd x.num.natAbs (x.den:Int).natAbs=1:=by rw[Z3];exact x.reduced
 rw[L]at j;obtain⟨o,r,t⟩:=pD f (m:=1) (by omega);have y:aC ((1:Nat):Int):=by
  unfold aC;have:=VF (n:=1) (k:=1) (by decide);rw[Z3];omega
 have g:=DA f j t y y;rw[show gH 1 1=.ofNat 0 from rfl]at g;obtain⟨N,F,-⟩:=j;obtain⟨m2,G,-⟩:=t;subst F G;have i:decide (((1:Nat):Int)<0)=false:=by decide
 rw[i]at q r g;refine Xv.of (f.Wa _ _ rfl) ((H.Xk.and (I.Xk.and (p.Xk.and (q.Xk.and (r.Xk.and (g.Xk.and f.Xk)))))).mono fun E K ⟨e1,e2,z,A,C,D,l⟩=> ?_);simp+decide only[Xo,Xs,reduceIte,Nat.reduceAdd,x121,l,X3,e1,e2,z,A,C,D]
inductive FL (E:Xa):Z'->Option P'->Prop
 |nil {p:Option P'}:FL E [] p
 |cons {x y z u:PL} {m:P'} {es:Z'} {p:Option P'} {s:Int} (hm:m.length=8) (h1:E.pure 121 [.agg [x,y,z,u]]=some (.one (.bool true))) (h2:E.pure 37 [.agg [x,y,z,u]]=some (.one (.int .i64 s))) (hs:Nr s (.ofNat 0)=false)
   (h3:E.pure 122 [.agg (mo m)]=some (.one (.bool true))) (h4:∀n,p=some n->n.length=8/\E.pure 35 [.agg (mo n),.agg (mo m)]=some (.one (La0 1))) (h:FL E es (some m)):FL E ((x::y::z::u::mo m)::es) p
theorem rP {B}(c:Std B):∀{m} {i},X6 m i->Sz i->∀p,(∀n,p=some n->n.length=8/\∀t∈i,WS n t.2=.ofNat 1)->Ph i->XT B fun E _=>FL E m p
 |_,_,.nil,_,_,_,_=>XT.of fun _ _=>.nil
 |_,_,.cons (y:=t) (ys:=i) ht h,hs,p,hp,hd=>by
  obtain⟨n,a,d,b,rfl,q,e⟩:=ht;have o:=td c q hs.head;have r:=gP c q;have s:=mD c e;have v:=rP c h hs.tail (some t.2) (fun n f=>by cases f;exact⟨e.1,(Zu.1 hd.pw).1⟩) hd.tail;have g:=vW (hd.nz t (Zc ..));cases p with
  |none=>exact(v.and (o.Xk.and (r.Xk.and s.Xk))).mono fun E K ⟨j,e1,e2,l⟩=>.cons e.1 e1 e2 g l (fun n f=>by cases f) j
  |some n=>
   obtain⟨w,f⟩:=hp n rfl;have u:=Ob c w e.1;rw[f t (Zc ..)]at u;exact(v.and (o.Xk.and (r.Xk.and (s.Xk.and u.Xk)))).mono fun E K ⟨j,e1,e2,l,x⟩=>.cons e.1 e1 e2 g l (fun k z=>by cases z;exact⟨w,x⟩) j
theorem IN {E}{K}(l:E.mode=md){P}{d}(q:Sl P d)(hl:d.length<1000000):∀{rest} {p},FL E rest p->∀i k H,d.drop i=rest->i+rest.length=d.length->(i=0\/∃n x y z u,p=some n/\d[i-1]? =some (x::y::z::u::mo n))->rest.length<k->
  ∃t r,Xb E K 0 [0,3] x70_1 k ⟨[(0,La4 P),(3,La1 i)],H⟩=some (.exit 0,⟨t,r⟩):=by
 intro rest p h;induction h with
 |nil=>
  intro i k H L w _ M;rcases k with _|k;omega;have f:¬i<d.length:=by simp at w;omega
  apply Exists.intro;apply Exists.intro;rw[Xb];simp only[Xo,Xs,reduceIte,Nat.reduceEqDiff,x70_1,q.len,f];rfl
 |@cons x y z u m es p s A G I N J V h X=>
  intro i k H L w j M;rcases k with _|k;omega;simp only[Zj]at w M;have f:i<d.length:=by omega
  obtain⟨F,S⟩:=Xh L;have O:=fun(v:HF) (C:IntKind)=>q.idx (h:=v) (k:=C) (sz:=12) F (by simp[XI,A])
  have D:Xd .i64 (.ofNat (i+1))=.ofNat (i+1):=wrap_i64 (by omega);have R:(Xu m).take 8=Xu m:=Ze (by rw[Xc];omega);obtain⟨t,r,g⟩:=X (i+1) k H S (by omega) (.inr ⟨m,x,y,z,u,rfl,by rw[Ys];exact F⟩) (by omega);refine⟨t,r,?_⟩;rw[<-g];by_cases h0:i=0
  ·subst h0;rw[Xb];simp+decide only[Xo,Xs,VD,Vv,reduceIte,Nat.reduceEqDiff,Nat.reduceAdd,x70_1,q.len,f,O,l,X3,G,I,N,J,D,R,A,Wj,Xc,XI,Wc,Wg]
  ·obtain⟨n,a,b,c,e,rfl,U⟩:=j.resolve_left h0;obtain⟨Q,W⟩:=V n rfl;have Y:=fun(v:HF) (C:IntKind)=>q.idx (h:=v) (k:=C) (sz:=12) U (by simp[XI,Q])
   have T:Xd .i64 (Int.ofNat i-Int.ofNat 1)=.ofNat (i-1):=X9 (by omega) (by omega);have Z:(Xu n).take 8=Xu n:=Ze (by rw[Xc];omega);have o:0<i:=by omega
   rw[Xb];simp+decide only[Xo,Xs,VD,Vv,reduceIte,Nat.reduceEqDiff,Nat.reduceAdd,x70_1,q.len,f,O,l,X3,G,I,N,J,D,R,A,Wj,Xc,XI,Wc,Wg,Y,T,Z,Q,W,o]
theorem tb {B}(c:Std B){e}{b}(a:PQ e b)(k:Sz b)(i:Ph b)(r:b.length<1000000):Xv B 70 [.one e] (.one (.bool true)):=by
 obtain⟨f,m,a⟩:=a;have j:=a.length;have g:=rP c a k none (fun n h=>by cases h) i;refine Xv.of (c.Wa _ _ rfl) ((g.and (c.Xk.and (XT.ge (f.length+1)))).mono fun E K ⟨e1,d,q⟩=> ?_);obtain⟨p,o,l⟩:=IN (K:=K) d m (by omega) e1 0 K [] rfl (by omega) (.inl rfl) (by omega);simp only[Xo,Xs,reduceIte,Nat.reduceEqDiff,Nat.reduceLeDiff,x70,l]
def L6 (E:Xa)(P T:PL)(v:Nat)(ss zs:N'):Prop:=∀(H:V') (i:Nat),H[i]? =some (TF v ss)->UL E 27 [.one (.own i v 0 ss.length),La4 P,La4 T] H=some (.one (.own H.length ss.length 0 ss.length),H.set i (TF v ss)++[TF ss.length zs])
inductive vy (E:Xa)(n:Nat):Nat->N'->Z'->N'->N'->Prop
 |nil (v:Nat) (cur:N'):vy E n v [] [] cur cur
 |cons {v:Nat} {P:PL} {cs t cur zs out:N'} {ls:Z'} (hl:cur.length=n) (hz:zs.length=n) (h:L6 E P (.Xl (Xf t)) v cur zs) (k:vy E n n cs ls zs out):vy E n v (P::cs) (t::ls) cur out
abbrev LS (C L:PL)(id v n i:Nat):List (Nat×DV):=[(0,La4 C),(1,La4 L),(7,.one (.own id v 0 n)),(8,La1 i)]
theorem LW {a:Type}(H:List a)(i:Nat)(b x:a):(H.set i b++[x])[H.length]? =some x:=by grind
theorem HP {E}{K n}(w:E.mode=md){C L}{m}{c}(F:Sl C (Xf m))(G:Sl L (Xf (gF c)))(R:m.length=c.length)(X:c.length<1000000){v}{p}{l}{a d}(h:vy E n v p l a d):
  ∀id i k H,H[id]? =some (TF v a)->m.drop i=p->c.drop i=l->i+l.length=c.length->l.length<k->
  ∃e z j I,Xb E K 0 [0,1,7,8] x29_1 k ⟨LS C L id v n i,H⟩=some (.exit 0,⟨e,z⟩)/\Xi e 7=some (.one (.own j I 0 n))/\z[j]? =some (TF I d):=by
 have g:=F.len;have b:=G.len;rw[Xt]at g;rw[Xt,ZP]at b;induction h with
 |nil v a=>
  intro id i k H A _ _ o D;rcases k with _|k;omega;simp only[Zr,ZU]at o;have :∃e,Xb E K 0 [0,1,7,8] x29_1 (k+1) ⟨LS C L id v n i,H⟩=some (.exit 0,⟨e,H⟩)/\Xi e 7=some (.one (.own id v 0 n)):=by
   apply VW
   ·rw[Xb];simp only[Xo,Xs,reduceIte,Nat.reduceEqDiff,x29_1,b,o,Zx];rfl
   ·simp only[Xo,reduceIte,Nat.reduceEqDiff]
  grind
 |@cons v P p t a V d l q Y h k Z=>
  intro id i k H A S r o D;rcases k with _|k;omega;simp only[Zj]at o D;obtain⟨M,W⟩:=Xh S;obtain⟨O,N⟩:=Xh r;have u:i<c.length:=by omega
  have f:i<m.length:=by omega
  have Q:(gF c)[i]? =some (.Xl (Xf t)):=by simp[O]
  have T:=fun(s:HF) (y:IntKind)=>F.idx (h:=s) (k:=y) (sz:=1) (XK M) rfl
  have U:=fun(s:HF) (y:IntKind)=>G.idx (h:=s) (k:=y) (sz:=1) (XK Q) rfl
  have J:Xd .i64 (.ofNat (i+1))=.ofNat (i+1):=wrap_i64 (by omega);have B:=h H id A;rw[q]at B;have this:Xb E K 0 [0,1,7,8] x29_1 (k+1) ⟨LS C L id v n i,H⟩=Xb E K 0 [0,1,7,8] x29_1 k ⟨LS C L H.length n n (i+1),H.set id (TF v a)++[TF n V]⟩:=by
   rw[Xb];simp+decide only[Xo,Xs,VD,Vv,reduceIte,Nat.reduceEqDiff,Nat.reduceAdd,x29_1,w,X3,g,b,u,f,T,U,B,J]
  grind
theorem yx (n):pc (Xf (List.replicate n .Xp))=List.replicate n [.p .Xp]:=by
 unfold pc Xf;simp
theorem vy.MS {E}{n v}{c}{g}{a b}(h:vy E n v c g a b)(d:a.length=n):b.length=n:=by
 induction h with
 |nil=>exact d
 |cons _ e _ _ f=>exact f e
theorem qP {B}(k:Std B){C L}{d a}{c}{n}(t:Sl C (Xf d))(u:Sl L (Xf (gF c)))(e:d.length=c.length)(q:c.length<1000000)(y:n<100000)(h:XT B fun E _=>vy E n 0 d c (List.replicate n .Xp) a):
  Xv B 29 [.one C,.one L,.one (La0 n)] (.one (.Xl (Xf a))):=by
 refine Xv.of (k.Wa _ _ rfl) ((h.and (k.Xk.and (XT.ge (c.length+1)))).mono fun E K ⟨g,b,x⟩=> ?_);obtain⟨w,v,s,A,i,o,j⟩:=HP (K:=K) b t u e q g 0 0 K [TF 0 (List.replicate n .Xp)] rfl rfl rfl (by omega) (by omega);have z:=g.MS (by simp);have l:24*n<=lim:=by unfold lim;omega
 have m:n<=9223372036854775807:=by omega
 have r:(pc (Xf a)).take n=pc (Xf a):=WT (Xf a) (by rw[Xt];omega);have p:=fun h=>Vb 5 h (Xf a)
 have f:n<=a.length:=by omega
 simp only[LS,TF,yx]at i;simp only[TF]at j;simp+decide only[Xo,Xs,VD,reduceIte,Nat.reduceAdd,x29,l,m,i,o,j,r,p,f,WB,Xt]
theorem KT {E}{K}(l:E.mode=md){L}{b}(o:Sl L (Xf b))(w:b.length<1000000)(h:∀(i:Nat) (p:PL),b[i]? =some p->E.pure 70 [.one p]=some (.one (.bool true))):∀d i k H,i+d=b.length->d<k->
  ∃f,Xb E K 0 [0,3] x28_1 k ⟨[(0,La4 L),(3,La1 i)],H⟩=some (.exit 0,⟨f,H⟩):=by
 have a:=o.len;rw[Xt]at a;intro d;induction d with
 |zero=>
  intro i k H j s;rcases k with _|k;omega;simp only[ZU]at j;subst j;apply Exists.intro;rw[Xb];simp only[Xo,Xs,reduceIte,Nat.reduceEqDiff,x28_1,a,Zx];rfl
 |succ d t=>
  intro i k H j s;rcases k with _|k;omega;have c:i<b.length:=by omega
  have g:=Zd c;have n:=h i _ g;generalize b[i]=p at g n;have u:=fun(r:HF) (v:IntKind)=>o.idx (h:=r) (k:=v) (sz:=1) (XK g) rfl
  have q:Xd .i64 (.ofNat (i+1))=.ofNat (i+1):=wrap_i64 (by omega);obtain⟨f,e⟩:=t (i+1) k H (by omega) (by omega);refine⟨f,?_⟩;rw[Xb];simp+decide only[Xo,Xs,Vv,reduceIte,x28_1,l,X3,a,c,u,n,q];exact e
theorem iF {B}(m:Std B){L}{h}{k}(w:Sl L (Xf h))(t:h.length<1000000)(q:VV h k)(u:∀f∈k,Sz f/\Ph f/\f.length<1000000):Xv B 28 [.one L] (.one (.bool true)):=by
 have j:=XT.all (B:=B) (p:=fun i E _=>∀p,h[i]? =some p->E.pure 70 [.one p]=some (.one (.bool true))) h.length fun i z=>by
  have s:=q.length;obtain⟨p,C,v⟩:=q.get (Zd (l:=k) (i:=i) (by omega));obtain⟨a,b,c⟩:=u _ (Ya (l:=k) (n:=i) (by omega));exact(tb m v a b c).Xk.mono fun E K e A d=>by
   grind
 refine Xv.of (m.Wa _ _ rfl) ((j.and (m.Xk.and (XT.ge (h.length+1)))).mono fun E K ⟨r,o,y⟩=> ?_);obtain⟨x,g⟩:=KT (K:=K) o w t (fun i p d=>r i (Zg.1 d).1 p d) h.length 0 K [] (by omega) (by omega);simp+decide only[Xo,Xs,reduceIte,x28,g]
theorem I7 {E}{K n}(l:E.mode=md){L}{b}(s:Sl L (Xf (gF b)))(A:b.length<1000000)(h:∀(i:Nat) (p:N'),b[i]? =some p->p.length=n/\E.pure 28 [.one (.Xl (Xf p))]=some (.one (.bool true))):∀d i k H,i+d=b.length->d<k->
  ∃f,Xb E K 0 [0,1,5] x26_1 k ⟨[(0,La4 L),(1,La1 n),(5,La1 i)],H⟩=some (.exit 0,⟨f,H⟩):=by
 have a:=s.len;rw[Xt,ZP]at a;intro d;induction d with
 |zero=>
  intro i k H j w;rcases k with _|k;omega;simp only[ZU]at j;subst j;apply Exists.intro;rw[Xb];simp only[Xo,Xs,reduceIte,Nat.reduceEqDiff,x26_1,a,Zx];rfl
 |succ d x=>
  intro i k H j w;rcases k with _|k;omega;have c:i<b.length:=by omega
  have g:=Zd c;obtain⟨o,r⟩:=h i _ g;generalize b[i]=p at g r o;have u:(gF b)[i]? =some (.Xl (Xf p)):=by simp[g]
  have y:=fun(v:HF) (z:IntKind)=>s.idx (h:=v) (k:=z) (sz:=1) (XK u) rfl
  have q:=(Sl.Xl (es:=Xf p)).len;rw[Xt,o]at q;have t:Xd .i64 (.ofNat (i+1))=.ofNat (i+1):=wrap_i64 (by omega);obtain⟨f,e⟩:=x (i+1) k H (by omega) (by omega);refine⟨f,?_⟩;rw[Xb];simp+decide only[Xo,Xs,Vv,reduceIte,x26_1,l,X3,a,c,y,q,r,t];exact e
theorem vV {B}(k:Std B){L}{c}{n}(q:Sl L (Xf (gF c)))(o:c.length<1000000)(h:∀p∈c,p.length=n/\Xv B 28 [.one (.Xl (Xf p))] (.one (.bool true))):Xv B 26 [.one L,.one (La0 n)] (.one (.bool true)):=by
 have d:=XT.all (B:=B) (p:=fun i E _=>∀p,c[i]? =some p->p.length=n/\E.pure 28 [.one (.Xl (Xf p))]=some (.one (.bool true))) c.length fun i l=>by
  obtain⟨a,b⟩:=h _ (Ya l);have s:=Zd l;exact b.Xk.mono fun E K e p u=>by
   grind
 refine Xv.of (k.Wa _ _ rfl) ((d.and (k.Xk.and (XT.ge (c.length+1)))).mono fun E K ⟨m,j,t⟩=> ?_);obtain⟨r,g⟩:=I7 (K:=K) (n:=n) j q o (fun i p f=>m i (Zg.1 f).1 p f) c.length 0 K [] (by omega) (by omega);simp+decide only[Xo,Xs,reduceIte,Nat.reduceAdd,x26,g]
