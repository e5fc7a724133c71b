/- Division: divisors. -/
import Derived.Test.YtidginchkjhobaaGreatQSubB
import Derived.Test.YtidginchkjhobaaGreatQLead
set_option maxHeartbeats 16000000
set_option maxRecDepth 100000
namespace Go.Ev
open Go.Proofs.YtidginchkjhobaaGreat
abbrev HM (v:Nat)(ds:Z'):Xx:=⟨false,v,15,pc ds,false,140⟩
def S4 (x y z u:PL)(m:P')(p r:PL)(i:Nat):N':=x::y::z::u::(mo m++[p,r,La0 i])
theorem uL {E}{K k i}{g L p}{a}(d:Sl L (Xf a))(m:a.length<1000000)(f:a[i]? =some p)(q:Sl p []){e}(H):
  Xb E K 0 [1,5,9,10,11] x95_1 (k+1) ⟨[(1,La4 g),(5,.one e),(9,La4 L),(10,La1 a.length),(11,La1 i)],H⟩=
   Xb E K 0 [1,5,9,10,11] x95_1 k ⟨[(1,La4 g),(5,.one e),(9,La4 L),(10,La1 a.length),(11,La1 (i+1))],H⟩:=by
 have c:i<a.length:=(Zg.mp f).1;have n:=fun(l:HF) (o:IntKind)=>d.idx (h:=l) (k:=o) (sz:=1) (XK f) rfl
 have j:Xd .i64 (.ofNat (i+1))=.ofNat (i+1):=wrap_i64 (by omega);have b:=q.len;rw[Xb];simp only[Xo,Xs,reduceIte,Nat.reduceEqDiff,x95_1,c,n,j,b,Zx]
theorem BT {E}{K k i}(s:E.mode=md){v L p x y z u}{m}{b}{es e}(w:Sl L (Xf b))(G:b.length<1000000)(A:b[i]? =some p)(M:Sl p es)(o:0<es.length)(B:m.length=8)(j:∀d∈e,d.length=12)
  (a:E.pure 140 [.one p,.one v]=some (.one (.Xl ((x::y::z::u::mo m)::e)))):
  ∃J D,Xb E K 0 [1,5,9,10,11] x95_1 (k+1) ⟨[(1,La4 v),(5,La4 .Xp),(9,La4 L),(10,La1 b.length),(11,La1 i)],[]⟩=
   Xb E K 0 [1,5,9,10,11] x95_1 k ⟨[(1,La4 v),(5,.one (.own 1 0 0 1)),(9,La4 L),(10,La1 b.length),(11,La1 (i+1))],J::HM 0 [S4 x y z u m p (.Xl e) i]::D⟩:=by
 have r:i<b.length:=(Zg.mp A).1;have H:=fun(q:HF) (t:IntKind)=>w.idx (h:=q) (k:=t) (sz:=1) (XK A) rfl
 have F:Xd .i64 (.ofNat (i+1))=.ofNat (i+1):=wrap_i64 (by omega);have f:=M.len;have I:Sl (.Xl ((x::y::z::u::mo m)::e)) ((x::y::z::u::mo m)::e):=.Xl;have id:=fun(q:HF) (t:IntKind)=>I.idx (h:=q) (k:=t) (i:=0) (sz:=12) rfl (by simp[XI,B])
 have C:=Ul (c:=x::y::z::u::mo m) (es:=e) j;have V:(Xu m).take 8=Xu m:=Ze (by rw[Xc];omega);have N:(Xu m).drop 8=[]:=Zo (by rw[Xc];omega);have W:=X0 m;obtain⟨O,m2,P,Q,R,S,T,U,rfl⟩:=eight B;have l:∀(n:Nat) (c:Y') (g:P'),W9 140 15 184 n [c] g=some ⟨.one (.own n 0 0 1),[⟨false,0,15,[c],false,140⟩],[],g⟩:=fun _ _ _=>rfl
 simp only[mo,Zt,ZF]at C id a;apply Exists.intro;apply Exists.intro;rw[Xb];simp+decide only[Xo,Xs,Vv,reduceIte,Nat.reduceAdd,x95_1,r,H,F,f,o,s,X3,a,id,C,l,mo,S4];rfl
theorem Fc {E}{K k i v}(r:E.mode=md){t L p x y z u}{m}{b}{es e}(w:Sl L (Xf b))(O:b.length<1000000)(A:b[i]? =some p)(R:Sl p es)(l:0<es.length)(B:m.length=8)(j:∀d∈e,d.length=12)
  (a:E.pure 140 [.one p,.one t]=some (.one (.Xl ((x::y::z::u::mo m)::e)))) {ds} (N:ds.length<1000000) (J) (G):
  ∃D,Xb E K 0 [1,5,9,10,11] x95_1 (k+1) ⟨[(1,La4 t),(5,.one (.own 1 v 0 ds.length)),(9,La4 L),(10,La1 b.length),(11,La1 i)],J::HM v ds::G⟩=
   Xb E K 0 [1,5,9,10,11] x95_1 k ⟨[(1,La4 t),(5,.one (.own 1 (v+1) 0 (ds.length+1))),(9,La4 L),(10,La1 b.length),(11,La1 (i+1))],J::HM (v+1) (ds++[S4 x y z u m p (.Xl e) i])::D⟩:=by
 have q:i<b.length:=(Zg.mp A).1;have P:=fun(o:HF) (s:IntKind)=>w.idx (h:=o) (k:=s) (sz:=1) (XK A) rfl
 have F:Xd .i64 (.ofNat (i+1))=.ofNat (i+1):=wrap_i64 (by omega);have f:=R.len;have Q:Sl (.Xl ((x::y::z::u::mo m)::e)) ((x::y::z::u::mo m)::e):=.Xl;have id:=fun(o:HF) (s:IntKind)=>Q.idx (h:=o) (k:=s) (i:=0) (sz:=12) rfl (by simp[XI,B])
 have C:=Ul (c:=x::y::z::u::mo m) (es:=e) j;have tm:(Xu m).take 8=Xu m:=Ze (by rw[Xc];omega);have S:(Xu m).drop 8=[]:=Zo (by rw[Xc];omega);have w0:=X0 m;obtain⟨T,m2,U,V,W,X,Y,Z,rfl⟩:=eight B;have M:∀(n:Nat) (c:Y') (g:P'),W9 140 15 184 n [c] g=some ⟨.one (.own n 0 0 1),[⟨false,0,15,[c],false,140⟩],[],g⟩:=fun _ _ _=>rfl
 simp only[mo,Zt,ZF]at C id a;have H:(ds.length+1)*184<=lim:=by unfold lim;omega
 have I:ds.length+1<=9223372036854775807:=by omega
 apply Exists.intro;rw[Xb];simp+decide only[Xo,Xs,VD,Vv,reduceIte,Nat.reduceEqDiff,Nat.reduceLeDiff,Nat.reduceAdd,x95_1,q,P,F,f,l,r,X3,a,id,C,H,I,ZP,List.map_append,HM,mo,S4,pc];rfl
def Vl (o:M'):S'->Nat->List (Qm×I'×I'×Nat)
 |[],_=>[]
 |f::fs,i=>match VI o f with
  |[]=>Vl o fs (i+1)
  |t::us=>(t,f,us,i)::Vl o fs (i+1)
abbrev lT (ds:Z')(l:List (Qm×I'×I'×Nat)):Prop:=XE (fun d e=>gJ d e.1 e.2.1 e.2.2.1 e.2.2.2) ds l
inductive vx (E:Xa)(lo:PL):N'->Nat->Z'->Prop
 |nil {i:Nat}:vx E lo [] i []
 |skip {p:PL} {ps:N'} {i:Nat} {ds:Z'} (sp:Sl p []) (h:vx E lo ps (i+1) ds):vx E lo (p::ps) i ds
 |cons {p x y z u:PL} {m:P'} {ps:N'} {i:Nat} {es tl ds:Z'} (sp:Sl p es) (hes:0<es.length) (hm:m.length=8) (h12:∀d∈tl,d.length=12)
   (hdec:E.pure 140 [.one p,.one lo]=some (.one (.Xl ((x::y::z::u::mo m)::tl)))) (h:vx E lo ps (i+1) ds):vx E lo (p::ps) i (S4 x y z u m p (.Xl tl) i::ds)
theorem Sh (o)(a):(VI o a).length=a.length:=(W0 o a).length_eq
theorem zz {B}(F:fG B){J}{o}(M:SA J o)(H:Vq o)(k:o.length<1000000):∀{L} {s},VV L s->(∀f∈s,S3 f/\f.length<60000)->∀i,∃m,(XT B fun E _=>vx E J L i m)/\lT m (Vl o s i)
 |_,_,.nil,_,i=>⟨[],XT.of fun _ _=>.nil,.nil⟩
 |_,_,.cons (x:=p) (y:=f) (ys:=s) v h,u,i=>by
  obtain⟨m,C,D⟩:=zz F M H k h (fun g U=>u g (Za _ U)) (i+1);obtain⟨P,Q⟩:=u f (Zc ..);have w:=v;obtain⟨O,N,z⟩:=w;have S:=z.length;have j:=Sh o f;unfold Vl;obtain⟨r,V,W⟩:=SR F M H k v P Q;obtain⟨A,Y,I⟩:=W;generalize Z:VI o f=q at I j;cases I with
  |nil=>
   have :O=[]:=YC (by simp at j;omega);subst this;exact⟨m,C.mono fun E K e=>.skip N e,D⟩
  |@cons c t A us R l=>
   obtain rfl:=Sl.VU Y;have T:=X6.cU l;obtain⟨n,a,e,b,rfl,X,G⟩:=R;refine⟨_,(C.and V.Xk).mono fun E K ⟨e1,e2⟩=>.cons N (by simp at j;omega) G.1 (fun d u=>Q3.len (T d u)) e2 e1,.cons ?_ D⟩;exact⟨n,a,e,b,p,.Xl A,rfl,X,G,v,A,.Xl,l⟩
theorem J7 {E}{K}(D:E.mode=md){H L}{a}(q:Sl L (Xf a))(P:a.length<400000):∀{o} {i} {ds},vx E H o i ds->∀k v dd J G,a.drop i=o->i+o.length=a.length->dd.length<=i->o.length<k->
  ∃b f e,Xb E K 0 [1,5,9,10,11] x95_1 k ⟨[(1,La4 H),(5,.one (.own 1 v 0 dd.length)),(9,La4 L),(10,La1 a.length),(11,La1 i)],J::HM v dd::G⟩=
   some (.exit 0,⟨b,J::HM e (dd++ds)::f⟩)/\Xi b 5=some (.one (.own 1 e 0 (dd++ds).length)):=by
 intro o i ds h;induction h with
 |@nil i=>
  intro k v dd J G r l g s;rcases k with _|k;omega;have C:¬i<a.length:=by simp at l;omega
  have :∃b,Xb E K 0 [1,5,9,10,11] x95_1 (k+1) ⟨[(1,La4 H),(5,.one (.own 1 v 0 dd.length)),(9,La4 L),(10,La1 a.length),(11,La1 i)],J::HM v dd::G⟩=some (.exit 0,⟨b,J::HM v dd::G⟩)/\Xi b 5=some (.one (.own 1 v 0 dd.length)):=by
   apply VW
   ·rw[Xb];simp only[Xo,Xs,reduceIte,Nat.reduceEqDiff,x95_1,C];rfl
   ·simp only[Xo,reduceIte,Nat.reduceEqDiff]
  obtain⟨b,c,d⟩:=this;exact⟨b,G,v,by rw[ZJ];exact c,by rw[ZJ];exact d⟩
 |skip I h F=>
  intro k v dd J G r l g s;rcases k with _|k;omega;simp only[Zj]at l s;obtain⟨w,t⟩:=Xh r;obtain⟨b,f,e,c,d⟩:=F k v dd J G t (by omega) (by omega) (by omega);exact⟨b,f,e,(uL (K:=K) q (by omega) w I _).trans c,d⟩
 |@cons p x y z u m S i R M ds I B Q A j h F=>
  intro k v dd J G r l g s;rcases k with _|k;omega;simp only[Zj]at l s;obtain⟨w,t⟩:=Xh r;obtain⟨N,O⟩:=Fc (K:=K) (k:=k) (v:=v) D q (by omega) w I B Q A j (ds:=dd) (by omega) J G;obtain⟨b,f,e,c,d⟩:=F k (v+1) (dd++[S4 x y z u m p (.Xl M) i]) J N t (by omega) (by simp;omega) (by omega);rw[show(dd++[S4 x y z u m p (.Xl M) i]).length=dd.length+1 by simp]at c;rw[Zp,ZW]at c d;exact⟨b,f,e,O.trans c,d⟩
theorem zy {E}{K}(n:E.mode=md){G L}{a}(d:Sl L (Xf a))(D:a.length<400000):∀{q} {i} {c},vx E G q i c->∀k,a.drop i=q->i+q.length=a.length->q.length<k->
  ∃b g,Xb E K 0 [1,5,9,10,11] x95_1 k ⟨[(1,La4 G),(5,La4 .Xp),(9,La4 L),(10,La1 a.length),(11,La1 i)],[]⟩=some (.exit 0,⟨b,g⟩)/\
   ((c=[]/\Xi b 5=some (La4 .Xp)/\g=[])\/(c≠[]/\∃t J v,Xi b 5=some (.one (.own 1 t 0 c.length))/\g=J::HM t c::v)):=by
 intro q i c h;induction h with
 |@nil i=>
  intro k r l s;rcases k with _|k;omega;have F:¬i<a.length:=by simp at l;omega
  have :∃b,Xb E K 0 [1,5,9,10,11] x95_1 (k+1) ⟨[(1,La4 G),(5,La4 .Xp),(9,La4 L),(10,La1 a.length),(11,La1 i)],[]⟩=some (.exit 0,⟨b,[]⟩)/\Xi b 5=some (La4 .Xp):=by
   apply VW
   ·rw[Xb];simp only[Xo,Xs,reduceIte,Nat.reduceEqDiff,x95_1,F];rfl
   ·simp only[Xo,reduceIte,Nat.reduceEqDiff]
  obtain⟨b,e,f⟩:=this;exact⟨b,[],e,.inl ⟨rfl,f,rfl⟩⟩
 |skip H h I=>
  intro k r l s;rcases k with _|k;omega;simp only[Zj]at l s;obtain⟨A,w⟩:=Xh r;obtain⟨b,g,e,f⟩:=I k w (by omega) (by omega);exact⟨b,g,(uL (K:=K) d (by omega) A H _).trans e,f⟩
 |@cons p x y z u m R i Q P c H C O B j h I=>
  intro k r l s;rcases k with _|k;omega;simp only[Zj]at l s;obtain⟨A,w⟩:=Xh r;obtain⟨J,M,N⟩:=BT (K:=K) (k:=k) n d (by omega) A H C O B j;obtain⟨b,v,t,e,f⟩:=J7 (K:=K) n d D h k 0 [S4 x y z u m p (.Xl P) i] J M w (by omega) (by simp) (by omega);rw[ZW]at e f;exact⟨b,_,N.trans e,.inr ⟨by simp,t,J,v,f,rfl⟩⟩
theorem Oy {B}(e:fG B){n L}{o}(y:SA n o)(w:Vq o)(g:o.length<1000000){ls}{fs}(k:Sl L (Xf ls))(h:VV ls fs)(t:∀f∈fs,S3 f/\f.length<60000)(A:fs.length<400000):
  ∃r b,Xv B 95 [.one L,.one n] (.one r)/\Sl r b/\lT b (Vl o fs 0):=by
 have v:=h.length;obtain⟨b,l,m⟩:=zz e y w g h t 0;have a:=k.len;rw[Xt]at a;by_cases h0:b=[]
 ·subst h0;refine⟨.Xp,[],Xv.of (e.Wa _ _ rfl) ((l.and (e.toStd.Xk.and (XT.ge (ls.length+1)))).mono fun E K ⟨e1,c,s⟩=> ?_),.nil,m⟩;obtain⟨q,p,j,d⟩:=zy (K:=K) c k (by omega) e1 K rfl (by omega) (by omega);rcases d with⟨-,d,rfl⟩|⟨i,-⟩
  ·simp only[Xo,Xs,reduceIte,Nat.reduceEqDiff,Nat.reduceLeDiff,Nat.reduceAdd,x95,a,j,d]
  ·exact absurd rfl i
 ·refine⟨.Xl b,b,Xv.of (e.Wa _ _ rfl) ((l.and (e.toStd.Xk.and (XT.ge (ls.length+1)))).mono fun E K ⟨e1,c,s⟩=> ?_),.Xl,m⟩;obtain⟨q,p,j,d⟩:=zy (K:=K) c k (by omega) e1 K rfl (by omega) (by omega);rcases d with⟨i,-,-⟩|⟨-,C,J,z,d,rfl⟩
  ·exact absurd i h0
  ·have x:=WT b (Zf _);have u:=fun h=>Vb 5 h b
   simp only[Xo,Xs,reduceIte,Nat.reduceEqDiff,Nat.reduceLeDiff,Nat.reduceAdd,x95,a,j,d,x,u,WB,Zf]
theorem gJ.len {d}{t}{f g}{k}(h:gJ d t f g k):d.length=15:=by
 obtain⟨n,a,e,b,p,r,rfl,q,c,i,j⟩:=h;simp[XI,c.1]
theorem wk {B}(j:fG B){F l m}{o}(so:SA F o)(Y:Vq o)(z:o.length<1000000)(hv:Xv B 50 [.one F] (.one (.bool true))){a b N O}{t s}(A:PQ l a)(C:PQ m b)(P:S3 a)(Q:S3 b)(l1:a.length<60000)(l2:b.length<60000)
  (T:VI o a=t::N) (U:VI o b=s::O) (ht:Sq t.1) (t0:t.1≠0) (Z:Sq s.1) (s0:s.1≠0) (zt:Sz a) (zs:Sz b)
  (ot:∀u∈a,XA (Xg (XO (XM t.2 s.2) t.2) u.2)) (os:∀u∈b,XA (Xg (XO (XM t.2 s.2) s.2) u.2)) (rt:Sz (SI (XM t.2 s.2) t a)) (rs:Sz (SI (XM t.2 s.2) s b)):
  ∃c,Xv B 100 [.one l,.one m,.one F] (.Wd [.one (.Xl c),.one (La0 0)])/\X6 c (vN t a s b):=by
 obtain⟨r,R,V,n,q⟩:=Oy j so Y z (L:=.Xl (Xf [l,m])) (ls:=[l,m]) (fs:=[a,b]) .Xl (.cons A (.cons C .nil)) (fun f I=>by
  simp only[Zk,ZQ,or_false]at I;rcases I with rfl|rfl
  ·exact⟨P,l1⟩
  ·exact⟨Q,l2⟩) (by simp)
 simp only[Vl,T,U]at q;obtain⟨d,e,rfl⟩:∃d e,R=[d,e]:=by
  cases q with |cons _ h=>cases h with |cons _ h=>cases h;exact⟨_,_,rfl⟩
 obtain rfl:=Sl.VU n;obtain⟨G,H⟩:gJ d t a N 0/\gJ e s b O 1:=by
  cases q with |cons x h=>cases h with |cons y h=>exact⟨x,y⟩
 obtain⟨c,W,X⟩:=O4 j.toStd G H ht t0 Z s0 zt zs ot os rt rs (by omega) (by omega);have J:=G.len;have M:=H.len;have i0:=fun(v:HF) (D:IntKind)=>n.idx (h:=v) (k:=D) (i:=0) (sz:=15) rfl J
 have i1:=fun(v:HF) (D:IntKind)=>n.idx (h:=v) (k:=D) (i:=1) (sz:=15) rfl M
 have g:=n.len;have t1:(d.map DL.p).take 15=d.map DL.p:=Ze (by simp[J]);have t2:(e.map DL.p).take 15=e.map DL.p:=Ze (by simp[M]);obtain⟨a1,a2,a3,a4,x1,x2,x3,x4,x5,x6,x7,x8,a5,a6,rfl,-⟩:=G.cells;obtain⟨b1,b2,b3,b4,y1,y2,y3,y4,y5,y6,y7,y8,b5,b6,rfl,-⟩:=H.cells;refine⟨c,Xv.of (j.Wa _ _ rfl) ((V.Xk.and (W.Xk.and (hv.Xk.and j.toStd.Xk))).mono fun E K ⟨e1,e2,S,w⟩=> ?_),X⟩;simp only[Xf,Zt,ZF]at e1;simp+decide only[Xo,Xs,reduceIte,Nat.reduceAdd,x100,w,X3,e1,e2,S,i0,i1,g]
