/- Division: divisors. -/
import Derived.Test.YtidginchkjhobaaGreatQSub
import Derived.Test.YtidginchkjhobaaGreatQLead
set_option maxHeartbeats 16000000
set_option maxRecDepth 100000
namespace Go.Proofs.YtidginchkjhobaaGreat
open Go.Ev Go.Num
abbrev FH (v:Nat)(ds:I'):Xx:=⟨false,v,15,pc ds,false,140⟩
def SL (x y z u:PL)(m:P')(p r:PL)(i:Nat):N':=x::y::z::u::(mo m++[p,r,LA i])
theorem sK {E:Xa}{K k i:Nat}{g L p:PL}{a:N'}(d:Sl L (Xf a))(m:a.length<1000000)(f:a[i]? =some p)(q:Sl p []){e:DL}(H:V'):
  Xb E K 0 [1,5,9,10,11] x95_1 (k+1) ⟨[(1,.one (.p g)),(5,.one e),(9,.one (.p L)),(10,LB a.length),(11,LB i)],H⟩=
   Xb E K 0 [1,5,9,10,11] x95_1 k ⟨[(1,.one (.p g)),(5,.one e),(9,.one (.p L)),(10,LB a.length),(11,LB (i+1))],H⟩:=by
 have c:i<a.length:=(Zf.mp f).1;have n:=fun(l:HF) (o:IntKind)=>d.idx (h:=l) (k:=o) (sz:=1) (XY f) rfl
 have j:Xe .i64 (.ofNat (i+1))=.ofNat (i+1):=wrap_i64 (by omega);have b:=q.len;rw[Xb];simp only[Xo,Xr,reduceIte,Nat.reduceEqDiff,x95_1,c,n,j,b,Zv]
theorem Ag {E:Xa}{K k i:Nat}(s:E.mode=md){v L p x y z u:PL}{m:P'}{b:N'}{es e:I'}(w:Sl L (Xf b))(G:b.length<1000000)(A:b[i]? =some p)(M:Sl p es)(o:0<es.length)(B:m.length=8)(j:∀d∈e,d.length=12)
  (a:E.pure 140 [.one p,.one v]=some (.one (.Xn ((x::y::z::u::mo m)::e)))):
  ∃J D,Xb E K 0 [1,5,9,10,11] x95_1 (k+1) ⟨[(1,.one (.p v)),(5,.one (.p .Xq)),(9,.one (.p L)),(10,LB b.length),(11,LB i)],[]⟩=
   Xb E K 0 [1,5,9,10,11] x95_1 k ⟨[(1,.one (.p v)),(5,.one (.own 1 0 0 1)),(9,.one (.p L)),(10,LB b.length),(11,LB (i+1))],J::FH 0 [SL x y z u m p (.Xn e) i]::D⟩:=by
 have r:i<b.length:=(Zf.mp A).1;have H:=fun(q:HF) (t:IntKind)=>w.idx (h:=q) (k:=t) (sz:=1) (XY A) rfl
 have F:Xe .i64 (.ofNat (i+1))=.ofNat (i+1):=wrap_i64 (by omega);have f:=M.len;have I:Sl (.Xn ((x::y::z::u::mo m)::e)) ((x::y::z::u::mo m)::e):=.Xn;have id:=fun(q:HF) (t:IntKind)=>I.idx (h:=q) (k:=t) (i:=0) (sz:=12) rfl (by simp[XF,B])
 have C:=Uf (c:=x::y::z::u::mo m) (es:=e) j;have V:(Xw m).take 8=Xw m:=Zd (by rw[Xc];omega);have N:(Xw m).drop 8=[]:=Zo (by rw[Xc];omega);have W:=X0 m;obtain⟨O,m2,P,Q,R,S,T,U,rfl⟩:=eight B;have l:∀(n:Nat) (c:Y') (g:P'),WZ 140 15 184 n [c] g=some ⟨.one (.own n 0 0 1),[⟨false,0,15,[c],false,140⟩],[],g⟩:=fun _ _ _=>rfl
 simp only[mo,Zt,ZN]at C id a;apply Exists.intro;apply Exists.intro;rw[Xb];simp(decide:=true)only[Xo,Xr,Vx,reduceIte,Nat.reduceAdd,x95_1,r,H,F,f,o,s,X4,a,id,C,l,mo,SL];rfl
theorem C8 {E:Xa}{K k i v:Nat}(r:E.mode=md){t L p x y z u:PL}{m:P'}{b:N'}{es e:I'}(w:Sl L (Xf b))(O:b.length<1000000)(A:b[i]? =some p)(R:Sl p es)(l:0<es.length)(B:m.length=8)(j:∀d∈e,d.length=12)
  (a:E.pure 140 [.one p,.one t]=some (.one (.Xn ((x::y::z::u::mo m)::e)))) {ds:I'} (N:ds.length<1000000) (J:Xx) (G:V'):
  ∃D,Xb E K 0 [1,5,9,10,11] x95_1 (k+1) ⟨[(1,.one (.p t)),(5,.one (.own 1 v 0 ds.length)),(9,.one (.p L)),(10,LB b.length),(11,LB i)],J::FH v ds::G⟩=
   Xb E K 0 [1,5,9,10,11] x95_1 k ⟨[(1,.one (.p t)),(5,.one (.own 1 (v+1) 0 (ds.length+1))),(9,.one (.p L)),(10,LB b.length),(11,LB (i+1))],J::FH (v+1) (ds++[SL x y z u m p (.Xn e) i])::D⟩:=by
 have q:i<b.length:=(Zf.mp A).1;have P:=fun(o:HF) (s:IntKind)=>w.idx (h:=o) (k:=s) (sz:=1) (XY A) rfl
 have F:Xe .i64 (.ofNat (i+1))=.ofNat (i+1):=wrap_i64 (by omega);have f:=R.len;have Q:Sl (.Xn ((x::y::z::u::mo m)::e)) ((x::y::z::u::mo m)::e):=.Xn;have id:=fun(o:HF) (s:IntKind)=>Q.idx (h:=o) (k:=s) (i:=0) (sz:=12) rfl (by simp[XF,B])
 have C:=Uf (c:=x::y::z::u::mo m) (es:=e) j;have tm:(Xw m).take 8=Xw m:=Zd (by rw[Xc];omega);have S:(Xw m).drop 8=[]:=Zo (by rw[Xc];omega);have w0:=X0 m;obtain⟨T,m2,U,V,W,X,Y,Z,rfl⟩:=eight B;have M:∀(n:Nat) (c:Y') (g:P'),WZ 140 15 184 n [c] g=some ⟨.one (.own n 0 0 1),[⟨false,0,15,[c],false,140⟩],[],g⟩:=fun _ _ _=>rfl
 simp only[mo,Zt,ZN]at C id a;have H:(ds.length+1)*184<=lim:=by unfold lim;omega
 have I:ds.length+1<=9223372036854775807:=by omega
 apply Exists.intro;rw[Xb];simp(decide:=true)only[Xo,Xr,VR,Vx,reduceIte,Nat.reduceEqDiff,Nat.reduceLeDiff,Nat.reduceAdd,x95_1,q,P,F,f,l,r,X4,a,id,C,H,I,ZP,List.map_append,FH,mo,SL,pc];rfl
end Go.Proofs.YtidginchkjhobaaGreat
namespace Go.Num
def Vb (o:M'):S'->Nat->List (Qm×Z'×Z'×Nat)
 |[],_=>[]
 |f::fs,i=>match Vz o f with
  |[]=>Vb o fs (i+1)
  |t::us=>(t,f,us,i)::Vb o fs (i+1)
end Go.Num
namespace Go.Proofs.YtidginchkjhobaaGreat
open Go.Ev Go.Num
abbrev ko (ds:I')(l:List (Qm×Z'×Z'×Nat)):Prop:=XB (fun d e=>fK d e.1 e.2.1 e.2.2.1 e.2.2.2) ds l
inductive tP (E:Xa)(lo:PL):N'->Nat->I'->Prop
 |nil {i:Nat}:tP E lo [] i []
 |skip {p:PL} {ps:N'} {i:Nat} {ds:I'} (sp:Sl p []) (h:tP E lo ps (i+1) ds):tP E lo (p::ps) i ds
 |cons {p x y z u:PL} {m:P'} {ps:N'} {i:Nat} {es tl ds:I'} (sp:Sl p es) (hes:0<es.length) (hm:m.length=8) (h12:∀d∈tl,d.length=12)
   (hdec:E.pure 140 [.one p,.one lo]=some (.one (.Xn ((x::y::z::u::mo m)::tl)))) (h:tP E lo ps (i+1) ds):tP E lo (p::ps) i (SL x y z u m p (.Xn tl) i::ds)
theorem T7 (o:M')(a:Z'):(Vz o a).length=a.length:=(WL o a).length_eq
theorem xH {B:Xs}(F:eo B){J:PL}{o:M'}(M:TR J o)(H:Vt o)(k:o.length<1000000):∀{L:N'} {s:S'},VS L s->(∀f∈s,SI f/\f.length<60000)->∀i,∃m,(XS B fun E _=>tP E J L i m)/\ko m (Vb o s i)
 |_,_,.nil,_,i=>⟨[],XS.of fun _ _=>.nil,.nil⟩
 |_,_,.cons (x:=p) (y:=f) (ys:=s) v h,u,i=>by
  obtain⟨m,C,D⟩:=xH F M H k h (fun g U=>u g (Zb _ U)) (i+1);obtain⟨P,Q⟩:=u f (Zc ..);have w:=v;obtain⟨O,N,z⟩:=w;have S:=z.length;have j:=T7 o f;unfold Vb;obtain⟨r,V,W⟩:=SA F M H k v P Q;obtain⟨A,Y,I⟩:=W;generalize Z:Vz o f=q at I j;cases I with
  |nil=>
   have :O=[]:=Ye (by simp at j;omega);subst this;exact⟨m,C.mono fun E K e=>.skip N e,D⟩
  |@cons c t A us R l=>
   obtain rfl:=Sl.VP Y;have T:=X5.bU l;obtain⟨n,a,e,b,rfl,X,G⟩:=R;refine⟨_,(C.and V.Xk).mono fun E K ⟨e1,e2⟩=>.cons N (by simp at j;omega) G.1 (fun d u=>QN.len (T d u)) e2 e1,.cons ?_ D⟩;exact⟨n,a,e,b,p,.Xn A,rfl,X,G,v,A,.Xn,l⟩
theorem Ic {E:Xa}{K:Nat}(D:E.mode=md){H L:PL}{a:N'}(q:Sl L (Xf a))(P:a.length<400000):∀{o:N'} {i:Nat} {ds:I'},tP E H o i ds->∀(k v:Nat) (dd:I') (J:Xx) (G:V'),a.drop i=o->i+o.length=a.length->dd.length<=i->o.length<k->
  ∃b f e,Xb E K 0 [1,5,9,10,11] x95_1 k ⟨[(1,.one (.p H)),(5,.one (.own 1 v 0 dd.length)),(9,.one (.p L)),(10,LB a.length),(11,LB i)],J::FH v dd::G⟩=
   some (.exit 0,⟨b,J::FH e (dd++ds)::f⟩)/\Xh b 5=some (.one (.own 1 e 0 (dd++ds).length)):=by
 intro o i ds h;induction h with
 |@nil i=>
  intro k v dd J G r l g s;obtain⟨k,rfl⟩:∃n,k=n+1:=⟨k-1,by omega⟩;have C:¬i<a.length:=by simp at l;omega
  have :∃b,Xb E K 0 [1,5,9,10,11] x95_1 (k+1) ⟨[(1,.one (.p H)),(5,.one (.own 1 v 0 dd.length)),(9,.one (.p L)),(10,LB a.length),(11,LB i)],J::FH v dd::G⟩=some (.exit 0,⟨b,J::FH v dd::G⟩)/\Xh b 5=some (.one (.own 1 v 0 dd.length)):=by
   apply VO
   ·rw[Xb];simp only[Xo,Xr,reduceIte,Nat.reduceEqDiff,x95_1,C];rfl
   ·simp only[Xo,reduceIte,Nat.reduceEqDiff]
  obtain⟨b,c,d⟩:=this;exact⟨b,G,v,by rw[ZE];exact c,by rw[ZE];exact d⟩
 |skip I h F=>
  intro k v dd J G r l g s;obtain⟨k,rfl⟩:∃n,k=n+1:=⟨k-1,by omega⟩;simp only[Zi]at l s;obtain⟨w,t⟩:=Xi r;obtain⟨b,f,e,c,d⟩:=F k v dd J G t (by omega) (by omega) (by omega);exact⟨b,f,e,(sK (K:=K) q (by omega) w I _).trans c,d⟩
 |@cons p x y z u m S i R M ds I B Q A j h F=>
  intro k v dd J G r l g s;obtain⟨k,rfl⟩:∃n,k=n+1:=⟨k-1,by omega⟩;simp only[Zi]at l s;obtain⟨w,t⟩:=Xi r;obtain⟨N,O⟩:=C8 (K:=K) (k:=k) (v:=v) D q (by omega) w I B Q A j (ds:=dd) (by omega) J G;obtain⟨b,f,e,c,d⟩:=F k (v+1) (dd++[SL x y z u m p (.Xn M) i]) J N t (by omega) (by simp;omega) (by omega);rw[show(dd++[SL x y z u m p (.Xn M) i]).length=dd.length+1 by simp]at c;rw[Zq,ZY]at c d;exact⟨b,f,e,O.trans c,d⟩
theorem xG {E:Xa}{K:Nat}(n:E.mode=md){G L:PL}{a:N'}(d:Sl L (Xf a))(D:a.length<400000):∀{q:N'} {i:Nat} {c:I'},tP E G q i c->∀(k:Nat),a.drop i=q->i+q.length=a.length->q.length<k->
  ∃b g,Xb E K 0 [1,5,9,10,11] x95_1 k ⟨[(1,.one (.p G)),(5,.one (.p .Xq)),(9,.one (.p L)),(10,LB a.length),(11,LB i)],[]⟩=some (.exit 0,⟨b,g⟩)/\
   ((c=[]/\Xh b 5=some (.one (.p .Xq))/\g=[])\/(c≠[]/\∃t J v,Xh b 5=some (.one (.own 1 t 0 c.length))/\g=J::FH t c::v)):=by
 intro q i c h;induction h with
 |@nil i=>
  intro k r l s;obtain⟨k,rfl⟩:∃o,k=o+1:=⟨k-1,by omega⟩;have F:¬i<a.length:=by simp at l;omega
  have :∃b,Xb E K 0 [1,5,9,10,11] x95_1 (k+1) ⟨[(1,.one (.p G)),(5,.one (.p .Xq)),(9,.one (.p L)),(10,LB a.length),(11,LB i)],[]⟩=some (.exit 0,⟨b,[]⟩)/\Xh b 5=some (.one (.p .Xq)):=by
   apply VO
   ·rw[Xb];simp only[Xo,Xr,reduceIte,Nat.reduceEqDiff,x95_1,F];rfl
   ·simp only[Xo,reduceIte,Nat.reduceEqDiff]
  obtain⟨b,e,f⟩:=this;exact⟨b,[],e,.inl ⟨rfl,f,rfl⟩⟩
 |skip H h I=>
  intro k r l s;obtain⟨k,rfl⟩:∃o,k=o+1:=⟨k-1,by omega⟩;simp only[Zi]at l s;obtain⟨A,w⟩:=Xi r;obtain⟨b,g,e,f⟩:=I k w (by omega) (by omega);exact⟨b,g,(sK (K:=K) d (by omega) A H _).trans e,f⟩
 |@cons p x y z u m R i Q P c H C O B j h I=>
  intro k r l s;obtain⟨k,rfl⟩:∃o,k=o+1:=⟨k-1,by omega⟩;simp only[Zi]at l s;obtain⟨A,w⟩:=Xi r;obtain⟨J,M,N⟩:=Ag (K:=K) (k:=k) n d (by omega) A H C O B j;obtain⟨b,v,t,e,f⟩:=Ic (K:=K) n d D h k 0 [SL x y z u m p (.Xn P) i] J M w (by omega) (by simp) (by omega);rw[ZY]at e f;exact⟨b,_,N.trans e,.inr ⟨by simp,t,J,v,f,rfl⟩⟩
theorem P4 {B:Xs}(e:eo B){n L:PL}{o:M'}(y:TR n o)(w:Vt o)(g:o.length<1000000){ls:N'}{fs:S'}(k:Sl L (Xf ls))(h:VS ls fs)(t:∀f∈fs,SI f/\f.length<60000)(A:fs.length<400000):
  ∃r b,Xu B 95 [.one L,.one n] (.one r)/\Sl r b/\ko b (Vb o fs 0):=by
 have v:=h.length;obtain⟨b,l,m⟩:=xH e y w g h t 0;have a:=k.len;rw[Xt]at a;by_cases h0:b=[]
 ·subst h0;refine⟨.Xq,[],Xu.of (e.Wa _ _ rfl) ((l.and (e.toStd.Xk.and (XS.ge (ls.length+1)))).mono fun E K ⟨e1,c,s⟩=> ?_),.nil,m⟩;obtain⟨q,p,j,d⟩:=xG (K:=K) c k (by omega) e1 K rfl (by omega) (by omega);rcases d with⟨-,d,rfl⟩|⟨i,-⟩
  ·simp only[Xo,Xr,reduceIte,Nat.reduceEqDiff,Nat.reduceLeDiff,Nat.reduceAdd,x95,a,j,d]
  ·exact absurd rfl i
 ·refine⟨.Xn b,b,Xu.of (e.Wa _ _ rfl) ((l.and (e.toStd.Xk.and (XS.ge (ls.length+1)))).mono fun E K ⟨e1,c,s⟩=> ?_),.Xn,m⟩;obtain⟨q,p,j,d⟩:=xG (K:=K) c k (by omega) e1 K rfl (by omega) (by omega);rcases d with⟨i,-,-⟩|⟨-,C,J,z,d,rfl⟩
  ·exact absurd i h0
  ·have x:=WV b (Ze _);have u:=fun h=>Ve 5 h b
   simp only[Xo,Xr,reduceIte,Nat.reduceEqDiff,Nat.reduceLeDiff,Nat.reduceAdd,x95,a,j,d,x,u,Wm,Ze]
theorem fK.len {d:N'}{t:Qm}{f g:Z'}{k:Nat}(h:fK d t f g k):d.length=15:=by
 obtain⟨n,a,e,b,p,r,rfl,q,c,i,j⟩:=h;simp[XF,c.1]
theorem uE {B:Xs}(j:eo B){F l m:PL}{o:M'}(so:TR F o)(Y:Vt o)(z:o.length<1000000)(hv:Xu B 50 [.one F] (.one (.bool true))){a b N O:Z'}{t s:Qm}(A:PQ l a)(C:PQ m b)(P:SI a)(Q:SI b)(l1:a.length<60000)(l2:b.length<60000)
  (T:Vz o a=t::N) (U:Vz o b=s::O) (ht:Sq t.1) (t0:t.1≠0) (Z:Sq s.1) (s0:s.1≠0) (zt:Sz a) (zs:Sz b)
  (ot:∀u∈a,XD (Xg (XQ (XJ t.2 s.2) t.2) u.2)) (os:∀u∈b,XD (Xg (XQ (XJ t.2 s.2) s.2) u.2)) (rt:Sz (TN (XJ t.2 s.2) t a)) (rs:Sz (TN (XJ t.2 s.2) s b)):
  ∃c,Xu B 100 [.one l,.one m,.one F] (.X9 [.one (.Xn c),.one (LA 0)])/\X5 c (gM t a s b):=by
 obtain⟨r,R,V,n,q⟩:=P4 j so Y z (L:=.Xn (Xf [l,m])) (ls:=[l,m]) (fs:=[a,b]) .Xn (.cons A (.cons C .nil)) (fun f I=>by
  simp only[Zj,ZV,or_false]at I;rcases I with rfl|rfl
  ·exact⟨P,l1⟩
  ·exact⟨Q,l2⟩) (by simp)
 simp only[Vb,T,U]at q;obtain⟨d,e,rfl⟩:∃d e,R=[d,e]:=by
  cases q with |cons _ h=>cases h with |cons _ h=>cases h;exact⟨_,_,rfl⟩
 obtain rfl:=Sl.VP n;obtain⟨G,H⟩:fK d t a N 0/\fK e s b O 1:=by
  cases q with |cons x h=>cases h with |cons y h=>exact⟨x,y⟩
 obtain⟨c,W,X⟩:=OF j.toStd G H ht t0 Z s0 zt zs ot os rt rs (by omega) (by omega);have J:=G.len;have M:=H.len;have i0:=fun(v:HF) (D:IntKind)=>n.idx (h:=v) (k:=D) (i:=0) (sz:=15) rfl J
 have i1:=fun(v:HF) (D:IntKind)=>n.idx (h:=v) (k:=D) (i:=1) (sz:=15) rfl M
 have g:=n.len;have t1:(d.map DL.p).take 15=d.map DL.p:=Zd (by simp[J]);have t2:(e.map DL.p).take 15=e.map DL.p:=Zd (by simp[M]);obtain⟨a1,a2,a3,a4,x1,x2,x3,x4,x5,x6,x7,x8,a5,a6,rfl,-⟩:=G.cells;obtain⟨b1,b2,b3,b4,y1,y2,y3,y4,y5,y6,y7,y8,b5,b6,rfl,-⟩:=H.cells;refine⟨c,Xu.of (j.Wa _ _ rfl) ((V.Xk.and (W.Xk.and (hv.Xk.and j.toStd.Xk))).mono fun E K ⟨e1,e2,S,w⟩=> ?_),X⟩;simp only[Xf,Zt,ZN]at e1;simp(decide:=true)only[Xo,Xr,reduceIte,Nat.reduceAdd,x100,w,X4,e1,e2,S,i0,i1,g]
end Go.Proofs.YtidginchkjhobaaGreat
