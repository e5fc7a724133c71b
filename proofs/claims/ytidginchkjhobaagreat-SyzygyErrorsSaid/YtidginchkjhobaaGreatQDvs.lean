/- Division: divisors. -/
import Derived.Test.YtidginchkjhobaaGreatQSubB
import Derived.Test.YtidginchkjhobaaGreatQLead
set_option maxHeartbeats 16000000
set_option maxRecDepth 100000
namespace Go.Proofs.YtidginchkjhobaaGreat
open Go.Ev Go.Num
abbrev B4 (v:Nat)(ds:List (List PL)):Xz:=⟨false,v,15,pc ds,false,140⟩
def T8 (x y z u:PL)(m:List Nat)(p r:PL)(i:Nat):List PL:=x::y::z::u::(mo m++[p,r,.int .i64 (.ofNat i)])
theorem oZ {E:Xa}{K k i:Nat}{g L p:PL}{a:List PL}(d:Sl L (Xf a))(m:a.length<1000000)(f:a[i]? =some p)(q:Sl p []){e:DL}(H:List Xz):
  Xb E K 0 [1,5,9,10,11] x95_1 (k+1) ⟨[(1,.one (.p g)),(5,.one e),(9,.one (.p L)),(10,.one (.p (.int .i64 (.ofNat a.length)))),(11,.one (.p (.int .i64 (.ofNat i))))],H⟩=
   Xb E K 0 [1,5,9,10,11] x95_1 k ⟨[(1,.one (.p g)),(5,.one e),(9,.one (.p L)),(10,.one (.p (.int .i64 (.ofNat a.length)))),(11,.one (.p (.int .i64 (.ofNat (i+1)))))],H⟩:=by
 have c:i<a.length:=(Zb.mp f).1;have n:=fun(l:HF) (o:IntKind)=>d.idx (h:=l) (k:=o) (sz:=1) (XJ f) rfl
 have j:Xe .i64 (.ofNat (i+1))=.ofNat (i+1):=wrap_i64 (by omega);have b:=q.len;rw[Xb];simp only[Xm,Xq,reduceIte,Nat.reduceEqDiff,x95_1,c,n,j,b,Zx]
theorem wA {E:Xa}{K k i:Nat}(s:E.mode=md){v L p x y z u:PL}{m:List Nat}{b:List PL}{es e:List (List PL)}(w:Sl L (Xf b))(G:b.length<1000000)(A:b[i]? =some p)(M:Sl p es)(o:0<es.length)(B:m.length=8)(j:∀d∈e,d.length=12)
  (a:E.pure 140 [.one p,.one v]=some (.one (.Xp ((x::y::z::u::mo m)::e)))):
  ∃J D,Xb E K 0 [1,5,9,10,11] x95_1 (k+1) ⟨[(1,.one (.p v)),(5,.one (.p .XC)),(9,.one (.p L)),(10,.one (.p (.int .i64 (.ofNat b.length)))),(11,.one (.p (.int .i64 (.ofNat i))))],[]⟩=
   Xb E K 0 [1,5,9,10,11] x95_1 k ⟨[(1,.one (.p v)),(5,.one (.own 1 0 0 1)),(9,.one (.p L)),(10,.one (.p (.int .i64 (.ofNat b.length)))),(11,.one (.p (.int .i64 (.ofNat (i+1)))))],J::B4 0 [T8 x y z u m p (.Xp e) i]::D⟩:=by
 have r:i<b.length:=(Zb.mp A).1;have H:=fun(q:HF) (t:IntKind)=>w.idx (h:=q) (k:=t) (sz:=1) (XJ A) rfl
 have F:Xe .i64 (.ofNat (i+1))=.ofNat (i+1):=wrap_i64 (by omega);have f:=M.len;have I:Sl (.Xp ((x::y::z::u::mo m)::e)) ((x::y::z::u::mo m)::e):=.Xp;have id:=fun(q:HF) (t:IntKind)=>I.idx (h:=q) (k:=t) (i:=0) (sz:=12) rfl (by simp[XI,B])
 have C:=VP (c:=x::y::z::u::mo m) (es:=e) j;have W:(Xu m).take 8=Xu m:=Zd (by rw[Xc];omega);have N:(Xu m).drop 8=[]:=Zm (by rw[Xc];omega);have X:=XT m;obtain⟨O,P,Q,R,S,T,U,V,rfl⟩:=eight B;have l:∀(n:Nat) (c:List DL) (g:List Nat),WQ 140 15 184 n [c] g=some ⟨.one (.own n 0 0 1),[⟨false,0,15,[c],false,140⟩],[],g⟩:=fun _ _ _=>rfl
 simp only[mo,Zr,ZE]at C id a;apply Exists.intro;apply Exists.intro;rw[Xb];simp(decide:=true)only[Xm,Xq,Vm,reduceIte,Nat.reduceAdd,x95_1,r,H,F,f,o,s,X5,a,id,C,l,mo,T8];rfl
theorem zP {E:Xa}{K k i v:Nat}(r:E.mode=md){t L p x y z u:PL}{m:List Nat}{b:List PL}{es e:List (List PL)}(w:Sl L (Xf b))(O:b.length<1000000)(A:b[i]? =some p)(R:Sl p es)(l:0<es.length)(B:m.length=8)(j:∀d∈e,d.length=12)
  (a:E.pure 140 [.one p,.one t]=some (.one (.Xp ((x::y::z::u::mo m)::e)))) {ds:List (List PL)} (N:ds.length<1000000) (J:Xz) (G:List Xz):
  ∃D,Xb E K 0 [1,5,9,10,11] x95_1 (k+1) ⟨[(1,.one (.p t)),(5,.one (.own 1 v 0 ds.length)),(9,.one (.p L)),(10,.one (.p (.int .i64 (.ofNat b.length)))),(11,.one (.p (.int .i64 (.ofNat i))))],J::B4 v ds::G⟩=
   Xb E K 0 [1,5,9,10,11] x95_1 k ⟨[(1,.one (.p t)),(5,.one (.own 1 (v+1) 0 (ds.length+1))),(9,.one (.p L)),(10,.one (.p (.int .i64 (.ofNat b.length)))),(11,.one (.p (.int .i64 (.ofNat (i+1)))))],J::B4 (v+1) (ds++[T8 x y z u m p (.Xp e) i])::D⟩:=by
 have q:i<b.length:=(Zb.mp A).1;have P:=fun(o:HF) (s:IntKind)=>w.idx (h:=o) (k:=s) (sz:=1) (XJ A) rfl
 have F:Xe .i64 (.ofNat (i+1))=.ofNat (i+1):=wrap_i64 (by omega);have f:=R.len;have Q:Sl (.Xp ((x::y::z::u::mo m)::e)) ((x::y::z::u::mo m)::e):=.Xp;have id:=fun(o:HF) (s:IntKind)=>Q.idx (h:=o) (k:=s) (i:=0) (sz:=12) rfl (by simp[XI,B])
 have C:=VP (c:=x::y::z::u::mo m) (es:=e) j;have tm:(Xu m).take 8=Xu m:=Zd (by rw[Xc];omega);have S:(Xu m).drop 8=[]:=Zm (by rw[Xc];omega);have w0:=XT m;obtain⟨T,U,V,W,X,Y,Z,m8,rfl⟩:=eight B;have M:∀(n:Nat) (c:List DL) (g:List Nat),WQ 140 15 184 n [c] g=some ⟨.one (.own n 0 0 1),[⟨false,0,15,[c],false,140⟩],[],g⟩:=fun _ _ _=>rfl
 simp only[mo,Zr,ZE]at C id a;have H:(ds.length+1)*184<=lim:=by unfold lim;omega
 have I:ds.length+1<=9223372036854775807:=by omega
 apply Exists.intro;rw[Xb];simp(decide:=true)only[Xm,Xq,Vg,Vm,reduceIte,Nat.reduceEqDiff,Nat.reduceLeDiff,Nat.reduceAdd,x95_1,q,P,F,f,l,r,X5,a,id,C,H,I,ZP,List.map_append,B4,mo,T8,pc];rfl
end Go.Proofs.YtidginchkjhobaaGreat
namespace Go.Num
def Ws (o:List (List Int)):List (List Qm)->Nat->List (Qm×List Qm×List Qm×Nat)
 |[],_=>[]
 |f::fs,i=>match Vu o f with
  |[]=>Ws o fs (i+1)
  |t::us=>(t,f,us,i)::Ws o fs (i+1)
end Go.Num
namespace Go.Proofs.YtidginchkjhobaaGreat
open Go.Ev Go.Num
abbrev gX (ds:List (List PL))(l:List (Qm×List Qm×List Qm×Nat)):Prop:=XF (fun d e=>dK d e.1 e.2.1 e.2.2.1 e.2.2.2) ds l
inductive qe (E:Xa)(lo:PL):List PL->Nat->List (List PL)->Prop
 |nil {i:Nat}:qe E lo [] i []
 |skip {p:PL} {ps:List PL} {i:Nat} {ds:List (List PL)} (sp:Sl p []) (h:qe E lo ps (i+1) ds):qe E lo (p::ps) i ds
 |cons {p x y z u:PL} {m:List Nat} {ps:List PL} {i:Nat} {es tl ds:List (List PL)} (sp:Sl p es) (hes:0<es.length) (hm:m.length=8) (h12:∀d∈tl,d.length=12)
   (hdec:E.pure 140 [.one p,.one lo]=some (.one (.Xp ((x::y::z::u::mo m)::tl)))) (h:qe E lo ps (i+1) ds):qe E lo (p::ps) i (T8 x y z u m p (.Xp tl) i::ds)
theorem Sc (o:List (List Int))(a:List Qm):(Vu o a).length=a.length:=(Vh o a).length_eq
theorem uh {B:Xs}(F:dJ B){J:PL}{o:List (List Int)}(M:SG J o)(H:V3 o)(k:o.length<1000000):∀{L:List PL} {s:List (List Qm)},Ut L s->(∀f∈s,T5 f/\f.length<60000)->∀i,∃m,(X1 B fun E _=>qe E J L i m)/\gX m (Ws o s i)
 |_,_,.nil,_,i=>⟨[],X1.of fun _ _=>.nil,.nil⟩
 |_,_,.cons (x:=p) (y:=f) (ys:=s) v h,u,i=>by
  obtain⟨m,C,D⟩:=uh F M H k h (fun g U=>u g (Zc _ U)) (i+1);obtain⟨P,Q⟩:=u f (Ze ..);have w:=v;obtain⟨O,N,z⟩:=w;have S:=z.length;have j:=Sc o f;unfold Ws;obtain⟨r,V,W⟩:=TW F M H k v P Q;obtain⟨A,Y,I⟩:=W;generalize Z:Vu o f=q at I j;cases I with
  |nil=>
   have :O=[]:=Yq (by simp at j;omega);subst this;exact⟨m,C.mono fun E K e=>.skip N e,D⟩
  |@cons c t A us R l=>
   obtain rfl:=Sl.Vr Y;have T:=X4.ax l;obtain⟨n,a,e,b,rfl,X,G⟩:=R;refine⟨_,(C.and V.Xj).mono fun E K ⟨e1,e2⟩=>.cons N (by simp at j;omega) G.1 (fun d u=>R4.len (T d u)) e2 e1,.cons ?_ D⟩;exact⟨n,a,e,b,p,.Xp A,rfl,X,G,v,A,.Xp,l⟩
theorem DR {E:Xa}{K:Nat}(D:E.mode=md){H L:PL}{a:List PL}(q:Sl L (Xf a))(P:a.length<400000):∀{o:List PL} {i:Nat} {ds:List (List PL)},qe E H o i ds->∀(k v:Nat) (dd:List (List PL)) (J:Xz) (G:List Xz),a.drop i=o->i+o.length=a.length->dd.length<=i->o.length<k->
  ∃b f e,Xb E K 0 [1,5,9,10,11] x95_1 k ⟨[(1,.one (.p H)),(5,.one (.own 1 v 0 dd.length)),(9,.one (.p L)),(10,.one (.p (.int .i64 (.ofNat a.length)))),(11,.one (.p (.int .i64 (.ofNat i))))],J::B4 v dd::G⟩=
   some (.exit 0,⟨b,J::B4 e (dd++ds)::f⟩)/\Xh b 5=some (.one (.own 1 e 0 (dd++ds).length)):=by
 intro o i ds h;induction h with
 |@nil i=>
  intro k v dd J G r l g s;obtain⟨k,rfl⟩:∃n,k=n+1:=⟨k-1,by omega⟩;have C:¬i<a.length:=by simp at l;omega
  have :∃b,Xb E K 0 [1,5,9,10,11] x95_1 (k+1) ⟨[(1,.one (.p H)),(5,.one (.own 1 v 0 dd.length)),(9,.one (.p L)),(10,.one (.p (.int .i64 (.ofNat a.length)))),(11,.one (.p (.int .i64 (.ofNat i))))],J::B4 v dd::G⟩=some (.exit 0,⟨b,J::B4 v dd::G⟩)/\Xh b 5=some (.one (.own 1 v 0 dd.length)):=by
   apply VE
   ·rw[Xb];simp only[Xm,Xq,reduceIte,Nat.reduceEqDiff,x95_1,C];rfl
   ·simp only[Xm,reduceIte,Nat.reduceEqDiff]
  obtain⟨b,c,d⟩:=this;exact⟨b,G,v,by rw[ZS];exact c,by rw[ZS];exact d⟩
 |skip I h F=>
  intro k v dd J G r l g s;obtain⟨k,rfl⟩:∃n,k=n+1:=⟨k-1,by omega⟩;simp only[Zi]at l s;obtain⟨w,t⟩:=Xi r;obtain⟨b,f,e,c,d⟩:=F k v dd J G t (by omega) (by omega) (by omega);exact⟨b,f,e,(oZ (K:=K) q (by omega) w I _).trans c,d⟩
 |@cons p x y z u m S i R M ds I B Q A j h F=>
  intro k v dd J G r l g s;obtain⟨k,rfl⟩:∃n,k=n+1:=⟨k-1,by omega⟩;simp only[Zi]at l s;obtain⟨w,t⟩:=Xi r;obtain⟨N,O⟩:=zP (K:=K) (k:=k) (v:=v) D q (by omega) w I B Q A j (ds:=dd) (by omega) J G;obtain⟨b,f,e,c,d⟩:=F k (v+1) (dd++[T8 x y z u m p (.Xp M) i]) J N t (by omega) (by simp;omega) (by omega);rw[show(dd++[T8 x y z u m p (.Xp M) i]).length=dd.length+1 by simp]at c;rw[Zq,Z5]at c d;exact⟨b,f,e,O.trans c,d⟩
theorem ug {E:Xa}{K:Nat}(n:E.mode=md){G L:PL}{a:List PL}(d:Sl L (Xf a))(D:a.length<400000):∀{q:List PL} {i:Nat} {c:List (List PL)},qe E G q i c->∀(k:Nat),a.drop i=q->i+q.length=a.length->q.length<k->
  ∃b g,Xb E K 0 [1,5,9,10,11] x95_1 k ⟨[(1,.one (.p G)),(5,.one (.p .XC)),(9,.one (.p L)),(10,.one (.p (.int .i64 (.ofNat a.length)))),(11,.one (.p (.int .i64 (.ofNat i))))],[]⟩=some (.exit 0,⟨b,g⟩)/\
   ((c=[]/\Xh b 5=some (.one (.p .XC))/\g=[])\/(c≠[]/\∃t J v,Xh b 5=some (.one (.own 1 t 0 c.length))/\g=J::B4 t c::v)):=by
 intro q i c h;induction h with
 |@nil i=>
  intro k r l s;obtain⟨k,rfl⟩:∃o,k=o+1:=⟨k-1,by omega⟩;have F:¬i<a.length:=by simp at l;omega
  have :∃b,Xb E K 0 [1,5,9,10,11] x95_1 (k+1) ⟨[(1,.one (.p G)),(5,.one (.p .XC)),(9,.one (.p L)),(10,.one (.p (.int .i64 (.ofNat a.length)))),(11,.one (.p (.int .i64 (.ofNat i))))],[]⟩=some (.exit 0,⟨b,[]⟩)/\Xh b 5=some (.one (.p .XC)):=by
   apply VE
   ·rw[Xb];simp only[Xm,Xq,reduceIte,Nat.reduceEqDiff,x95_1,F];rfl
   ·simp only[Xm,reduceIte,Nat.reduceEqDiff]
  obtain⟨b,e,f⟩:=this;exact⟨b,[],e,.inl ⟨rfl,f,rfl⟩⟩
 |skip H h I=>
  intro k r l s;obtain⟨k,rfl⟩:∃o,k=o+1:=⟨k-1,by omega⟩;simp only[Zi]at l s;obtain⟨A,w⟩:=Xi r;obtain⟨b,g,e,f⟩:=I k w (by omega) (by omega);exact⟨b,g,(oZ (K:=K) d (by omega) A H _).trans e,f⟩
 |@cons p x y z u m R i Q P c H C O B j h I=>
  intro k r l s;obtain⟨k,rfl⟩:∃o,k=o+1:=⟨k-1,by omega⟩;simp only[Zi]at l s;obtain⟨A,w⟩:=Xi r;obtain⟨J,M,N⟩:=wA (K:=K) (k:=k) n d (by omega) A H C O B j;obtain⟨b,v,t,e,f⟩:=DR (K:=K) n d D h k 0 [T8 x y z u m p (.Xp P) i] J M w (by omega) (by simp) (by omega);rw[Z5]at e f;exact⟨b,_,N.trans e,.inr ⟨by simp,t,J,v,f,rfl⟩⟩
theorem Pd {B:Xs}(e:dJ B){n L:PL}{o:List (List Int)}(y:SG n o)(w:V3 o)(g:o.length<1000000){ls:List PL}{fs:List (List Qm)}(k:Sl L (Xf ls))(h:Ut ls fs)(t:∀f∈fs,T5 f/\f.length<60000)(A:fs.length<400000):
  ∃r b,Xx B 95 [.one L,.one n] (.one r)/\Sl r b/\gX b (Ws o fs 0):=by
 have v:=h.length;obtain⟨b,l,m⟩:=uh e y w g h t 0;have a:=k.len;rw[Xr]at a;by_cases h0:b=[]
 ·subst h0;refine⟨.XC,[],Xx.of (e.Wa _ _ rfl) ((l.and (e.toStd.Xj.and (X1.ge (ls.length+1)))).mono fun E K ⟨e1,c,s⟩=> ?_),.nil,m⟩;obtain⟨q,p,j,d⟩:=ug (K:=K) c k (by omega) e1 K rfl (by omega) (by omega);rcases d with⟨-,d,rfl⟩|⟨i,-⟩
  ·simp only[Xm,Xq,reduceIte,Nat.reduceEqDiff,Nat.reduceLeDiff,Nat.reduceAdd,x95,a,j,d]
  ·exact absurd rfl i
 ·refine⟨.Xp b,b,Xx.of (e.Wa _ _ rfl) ((l.and (e.toStd.Xj.and (X1.ge (ls.length+1)))).mono fun E K ⟨e1,c,s⟩=> ?_),.Xp,m⟩;obtain⟨q,p,j,d⟩:=ug (K:=K) c k (by omega) e1 K rfl (by omega) (by omega);rcases d with⟨i,-,-⟩|⟨-,C,J,z,d,rfl⟩
  ·exact absurd i h0
  ·have x:=VA b (Zh _);have u:=fun h=>VK 5 h b
   simp only[Xm,Xq,reduceIte,Nat.reduceEqDiff,Nat.reduceLeDiff,Nat.reduceAdd,x95,a,j,d,x,u,Wl,Zh]
theorem dK.len {d:List PL}{t:Qm}{f g:List Qm}{k:Nat}(h:dK d t f g k):d.length=15:=by
 obtain⟨n,a,e,b,p,r,rfl,q,c,i,j⟩:=h;simp[XI,c.1]
theorem qQ {B:Xs}(j:dJ B){F l m:PL}{o:List (List Int)}(so:SG F o)(Y:V3 o)(z:o.length<1000000)(hv:Xx B 50 [.one F] (.one (.bool true))){a b N O:List Qm}{t s:Qm}(A:PQ l a)(C:PQ m b)(P:T5 a)(Q:T5 b)(l1:a.length<60000)(l2:b.length<60000)
  (T:Vu o a=t::N) (U:Vu o b=s::O) (ht:Sq t.1) (t0:t.1≠0) (Z:Sq s.1) (s0:s.1≠0) (zt:Sz a) (zs:Sz b)
  (ot:∀u∈a,XE (Xg (X6 (XD t.2 s.2) t.2) u.2)) (os:∀u∈b,XE (Xg (X6 (XD t.2 s.2) s.2) u.2)) (rt:Sz (Tn (XD t.2 s.2) t a)) (rs:Sz (Tn (XD t.2 s.2) s b)):
  ∃c,Xx B 100 [.one l,.one m,.one F] (.XZ [.one (.Xp c),.one (.int .i64 (.ofNat 0))])/\X4 c (eL t a s b):=by
 obtain⟨r,R,V,n,q⟩:=Pd j so Y z (L:=.Xp (Xf [l,m])) (ls:=[l,m]) (fs:=[a,b]) .Xp (.cons A (.cons C .nil)) (fun f I=>by
  simp only[Zj,Z0,or_false]at I;rcases I with rfl|rfl
  ·exact⟨P,l1⟩
  ·exact⟨Q,l2⟩) (by simp)
 simp only[Ws,T,U]at q;obtain⟨d,e,rfl⟩:∃d e,R=[d,e]:=by
  cases q with |cons _ h=>cases h with |cons _ h=>cases h;exact⟨_,_,rfl⟩
 obtain rfl:=Sl.Vr n;obtain⟨G,H⟩:dK d t a N 0/\dK e s b O 1:=by
  cases q with |cons x h=>cases h with |cons y h=>exact⟨x,y⟩
 obtain⟨c,W,X⟩:=PJ j.toStd G H ht t0 Z s0 zt zs ot os rt rs (by omega) (by omega);have J:=G.len;have M:=H.len;have i0:=fun(v:HF) (D:IntKind)=>n.idx (h:=v) (k:=D) (i:=0) (sz:=15) rfl J
 have i1:=fun(v:HF) (D:IntKind)=>n.idx (h:=v) (k:=D) (i:=1) (sz:=15) rfl M
 have g:=n.len;have t1:(d.map DL.p).take 15=d.map DL.p:=Zd (by simp[J]);have t2:(e.map DL.p).take 15=e.map DL.p:=Zd (by simp[M]);obtain⟨a1,a2,a3,a4,x1,x2,x3,x4,x5,x6,x7,x8,a5,a6,rfl,-⟩:=G.cells;obtain⟨b1,b2,b3,b4,y1,y2,y3,y4,y5,y6,y7,y8,b5,b6,rfl,-⟩:=H.cells;refine⟨c,Xx.of (j.Wa _ _ rfl) ((V.Xj.and (W.Xj.and (hv.Xj.and j.toStd.Xj))).mono fun E K ⟨e1,e2,S,w⟩=> ?_),X⟩;simp only[Xf,Zr,ZE]at e1;simp(decide:=true)only[Xm,Xq,reduceIte,Nat.reduceAdd,x100,w,X5,e1,e2,S,i0,i1,g]
end Go.Proofs.YtidginchkjhobaaGreat
