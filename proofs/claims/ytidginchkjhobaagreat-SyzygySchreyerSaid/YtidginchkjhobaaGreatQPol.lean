/- Polynomials of the reference with rational coefficients: Times, Scale, Add, Sub, Mul, By. -/
import Derived.Test.YtidginchkjhobaaGreatRDiv
set_option maxHeartbeats 16000000
set_option maxRecDepth 100000
namespace Go.Proofs.YtidginchkjhobaaGreat
open Go.Ev Go.Num
def W0 (c:N')(t:Qm):Prop:=∃n a d b,c=.bool n::a::.bool d::b::mo t.2/\Ri [.bool n,a,.bool d,b] t.1/\XD t.2
abbrev X5 (es:I')(ts:Z'):Prop:=XB W0 es ts
def PQ (l:PL)(ts:Z'):Prop:=∃es,Sl l es/\X5 es ts
def Sz (ts:Z'):Prop:=∀t∈ts,Sq t.1
def IT (ts:Z'):Prop:=∀t∈ts,XD t.2
theorem Sz.tail {t:Qm}{a:Z'}(h:Sz (t::a)):Sz a:=fun x b=>h x (Zb _ b)
theorem Sz.head {t:Qm}{a:Z'}(h:Sz (t::a)):Sq t.1:=h t (Zc ..)
theorem Sz.nil:Sz []:=fun _ h=>by cases h
theorem Ri.len {c:N'}{x:Rat}(h:Ri c x):∃n a d b,c=[.bool n,a,.bool d,b]:=by
 obtain⟨n,a,d,b,rfl,-,-⟩:=h;exact⟨n,a,d,b,rfl⟩
theorem X5.tS {f:I'}{e:Z'}(h:X5 f e):IT e:=by
 intro t k;obtain⟨i,j⟩:=ZB.1 k;obtain⟨c,-,g⟩:=h.get i t j;obtain⟨n,a,d,b,-,-,h⟩:=g;exact h
theorem PQ.tS {l:PL}{a:Z'}(h:PQ l a):IT a:=by
 obtain⟨b,-,h⟩:=h;exact h.tS
theorem IT.q8 {a:Z'}(h:IT a):Q8 a:=fun t b=>(h t b).1
theorem W0.mk {n:Bool}{a:PL}{d:Bool}{b:PL}{x:Rat}{m:P'}(h:Ri [.bool n,a,.bool d,b] x)(c:XD m):W0 (.bool n::a::.bool d::b::mo m) (x,m):=⟨n,a,d,b,rfl,h,c⟩
theorem yq {x:Rat}(h:x≠0):Oi (nS x.num) (.ofNat 0)=false:=by
 have :x.num≠0:=fun e=>h (Rat.num_eq_zero.1 e)
 unfold nS;rw[if_neg this];split<;>rfl
theorem Ji:Oi (nS (0:Rat).num) (.ofNat 0)=true:=rfl
theorem gD {B:Xs}(i:Std B){c:N'}{z:Rat}(o:Ri c z)(s:Sq z){m:P'}(p:XD m):∀{l:I'} {g:Z'},X5 l g->Sz g->(∀t∈g,XD (Xg m t.2))->
  ∃e,X5 e (XG z m g)/\XS B fun E _=>kj E c m l e
 |_,_,.nil,_,_=>⟨[],.nil,XS.of fun _ _=>.nil⟩
 |_,_,.cons (y:=t) k h,hs,ho=>by
  obtain⟨e,A,C⟩:=gD i o s p h hs.tail fun t k=>ho t (Zb _ k)
  obtain⟨n,a,d,b,rfl,D,u⟩:=k;have j:=hs.head;have f:=ho t (Zc ..);have w:=nU i p u f;obtain⟨r,x,q⟩:=Hj i o D s j;obtain⟨I,F,H,G,rfl⟩:=q.len;exact⟨_,.cons (W0.mk q f) A,(C.and (w.Xk.and x.Xk)).mono fun E K ⟨e1,e2,v⟩=>.cons u f e2 v e1⟩
theorem bk {B:Xs}(i:Std B){c:N'}{z:Rat}(k:Ri c z)(G:Sq z)(h0:z≠0){m:P'}(o:XD m){l:PL}{g:Z'}(j:PQ l g)(F:Sz g)(C:∀t∈g,XD (Xg m t.2))(M:g.length<1000000):
  ∃e,Xu B 48 [.agg c,.agg (mo m),.one l] (.X9 [.one (.Xn e),.one (LA 0)])/\X5 e (XG z m g):=by
 obtain⟨q,H,j⟩:=j;have A:=j.length;obtain⟨e,w,x⟩:=gD i k G o j F C;have y:=nX i k;obtain⟨n,a,d,b,rfl⟩:=k.len;refine⟨e,Xu.of (i.Wa _ _ rfl) ((x.and (y.Xk.and (i.Xk.and (XS.ge (q.length+1))))).mono fun E K ⟨e1,e2,f,L⟩=> ?_),w⟩;obtain⟨J,I,N,r,s⟩:=AS (K:=K) o.1 f H (by omega) q e e1 0 K 0 [] [] (by simp) (by simp) (by simp) (by omega);have D:=yq h0;simp only[ZF,Zr,pc,ZN]at r s;have p:=o.1;simp only[Xo,Xr,reduceIte,Nat.reduceEqDiff,Nat.reduceLeDiff,Nat.reduceAdd,x48,Wj,Xc,p,f,X4,e2,D,r,s];have v:=WV e (Ze _);have u:=fun h=>Ve 5 h e
 simp only[pc]at v u;simp only[Xo,Xr,ZP,v,u,Ze]
theorem yB {B:Xs}(e:Std B){c:N'}(h:Ri c 0){m:P'}(j:XD m)(l:PL):
  Xu B 48 [.agg c,.agg (mo m),.one l] (.X9 [.one .Xq,.one (LA 0)]):=by
 have i:=nX e h;obtain⟨n,a,d,b,rfl⟩:=h.len;refine Xu.of (e.Wa _ _ rfl) ((i.Xk.and e.Xk).mono fun E K ⟨e2,g⟩=> ?_);have k:=Ji;have f:=j.1;simp only[Xo,Xr,reduceIte,Nat.reduceEqDiff,Nat.reduceLeDiff,Nat.reduceAdd,x48,Wj,Xc,f,g,X4,e2,k]
theorem Oz {B:Xs}(i:Std B){c:N'}{z:Rat}(k:Ri c z)(v:Sq z){l:PL}{j:Z'}(q:PQ l j)(u:Sz j)(s:j.length<1000000):
  ∃r,Xu B 17 [.agg c,.one l] (.one r)/\PQ r (if z=0 then[]else X1 z j):=by
 have h:=q.tS;by_cases h0:z=0
 ·subst h0;have o:=yB i k F8 l;obtain⟨n,a,d,b,rfl⟩:=k.len;refine⟨.Xq,Xu.of (i.Wa _ _ rfl) ((o.Xk.and i.Xk).mono fun E K ⟨e1,g⟩=> ?_),⟨[],.nil,by rw[if_pos rfl];exact .nil⟩⟩;simp only[zM,mo,Zt,ZN]at e1;simp only[Xo,Xr,reduceIte,Nat.reduceEqDiff,Nat.reduceLeDiff,Nat.reduceAdd,x17,g,X4,e1]
 ·obtain⟨f,o,p⟩:=bk i k v h0 F8 q u (fun t m=>by rw[Qb (h t m).1];exact h t m) s;have e:XG z zM j=X1 z j:=by
   unfold XG X1;exact List.map_congr_left fun t m=>by rw[Qb (h t m).1]
  rw[e]at p;obtain⟨n,a,d,b,rfl⟩:=k.len;refine⟨.Xn f,Xu.of (i.Wa _ _ rfl) ((o.Xk.and i.Xk).mono fun E K ⟨e1,g⟩=> ?_),⟨f,.Xn,by rw[if_neg h0];exact p⟩⟩;simp only[zM,mo,Zt,ZN]at e1;simp only[Xo,Xr,reduceIte,Nat.reduceEqDiff,Nat.reduceLeDiff,Nat.reduceAdd,x17,g,X4,e1]
theorem yR {B:Xs}(I:Std B):∀(n:Nat) {ps qs:I'} {ts us:Z'},ts.length+us.length<=n->X5 ps ts->X5 qs us->Sz ts->Sz us->
  ∃a,X5 a (Wh ts us)/\XS B fun E _=>Qz E ps qs a:=by
 intro n;induction n with
 |zero=>
  intro ps qs ts us m J C f g;cases J with
  |cons _ _=>simp at m
  |nil=>cases C with
   |cons _ _=>simp at m
   |nil=>exact⟨[],by rw[X6];exact .nil,XS.of fun _ _=>.nil⟩
 |succ n v=>
  intro ps qs ts us m J C f g;cases J with
  |nil=>cases C with
   |nil=>exact⟨[],by rw[X6];exact .nil,XS.of fun _ _=>.nil⟩
   |@cons c u qs us o h=>
    obtain⟨a,b,d⟩:=v (by simp at m⊢;omega) (ps:=[]) (ts:=[]) .nil h f g.tail;rw[X6]at b⊢;have l:=o;obtain⟨x,y,z,w,rfl,-,q⟩:=l;exact⟨_,.cons o b,d.mono fun E K e=>.Bv q e⟩
  |@cons c t ps ts s h=>cases C with
   |nil=>
    obtain⟨a,b,d⟩:=v (by simp at m⊢;omega) (qs:=[]) (us:=[]) h .nil f.tail g;rw[W9]at b⊢;have j:=s;obtain⟨x,y,z,w,rfl,-,q⟩:=j;exact⟨_,.cons s b,d.mono fun E K e=>.Gl q e⟩
   |@cons Q u qs us o k=>
    simp only[Zi]at m;have j:=s;have l:=o;obtain⟨x,y,z,w,rfl,M,p⟩:=j;obtain⟨x2,U,V,T,rfl,N,A⟩:=l;have i:=bo I p.1 A.1;rw[Ra];rcases VX t.2 u.2 with e|e|e
    ·rw[if_pos e];rw[e]at i;obtain⟨a,b,d⟩:=v (by simp;omega) h (.cons o k) f.tail g;exact⟨_,.cons s b,(d.and i.Xk).mono fun E K ⟨e1,e2⟩=>.Gm p A e2 e1⟩
    ·rw[if_neg (by rw[e];simp),if_pos e];rw[e]at i;obtain⟨a,b,d⟩:=v (by simp;omega) (.cons s h) k f g.tail;exact⟨_,.cons o b,(d.and i.Xk).mono fun E K ⟨e1,e2⟩=>.Bw p A e2 e1⟩
    ·rw[if_neg (by rw[e];simp),if_neg (by rw[e];simp)];rw[e]at i;obtain⟨a,b,d⟩:=v (by omega) h k f.tail g.tail;obtain⟨r,L,G⟩:=Hl I M N f.head g.head;have H:=nX I G;obtain⟨S,O,R,P,rfl⟩:=G.len;by_cases h0:t.1+u.1=0
     ·rw[if_pos h0];rw[h0]at H;exact⟨_,b,(d.and (i.Xk.and (L.Xk.and H.Xk))).mono fun E K ⟨e1,e2,D,F⟩=>.zero p A e2 D F e1⟩
     ·rw[if_neg h0];exact⟨_,.cons (W0.mk G p) b,(d.and (i.Xk.and (L.Xk.and H.Xk))).mono fun E K ⟨e1,e2,D,F⟩=>.both p A e2 D F (yq h0) e1⟩
theorem SY {B:Xs}(d:Std B){lp lq:PL}{ts us:Z'}(b:PQ lp ts)(c:PQ lq us)(o:Sz ts)(p:Sz us)(v:ts.length<1000000)(w:us.length<1000000):
  ∃a,Xu B 10 [.one lp,.one lq] (.one (.Xn a))/\X5 a (Wh ts us):=by
 obtain⟨k,q,b⟩:=b;obtain⟨l,r,c⟩:=c;have lp:=b.length;have lq:=c.length;obtain⟨a,m,n⟩:=yR d _ (Ze _) b c o p;refine⟨a,Xu.of (d.Wa _ _ rfl) ((n.and (d.Xk.and (XS.ge (k.length+l.length+1)))).mono fun E K ⟨e1,e,u⟩=> ?_),m⟩;obtain⟨t,s,x,i,j⟩:=Ip (K:=K) e q r (by omega) (by omega) k l a e1 0 0 K 0 [] [] (by simp) (by simp) (by simp) (by simp) (by simp) (by omega);simp only[ZF,Zr,pc,ZN]at i j;simp only[Xo,Xr,reduceIte,Nat.reduceEqDiff,Nat.reduceLeDiff,Nat.reduceAdd,x10,i,j];have g:=WV a (Ze _);have f:=fun h=>Ve 5 h a
 simp only[pc]at g f;simp only[Xo,Xr,ZP,g,f,Ze]
theorem Sq.neg {x:Rat}(h:Sq x):Sq (-x):=by
 unfold Sq;rw[Rat.neg_num,Rat.neg_den,Int.natAbs_neg];exact h
theorem neg_one_mul (x:Rat): -1*x= -x:=by grind
theorem Sz.neg {b:Z'}(h:Sz b):Sz (Wu b):=by
 intro t a;simp only[Wu,X1,ZM]at a;obtain⟨u,c,rfl⟩:=a;simp only[neg_one_mul];exact(h u c).neg
theorem nM:Sq (-1):=by
 have h:(Xd 1).length=1:=T6.2 (by decide);unfold Sq;show(Xd 1).length<_/\(Xd 1).length<_;omega
theorem SX {B:Xs}(b:Std B){lp lq:PL}{ts us:Z'}(u:PQ lp ts)(v:PQ lq us)(t:Sz ts)(h:Sz us)(w:ts.length<1000000)(k:us.length<1000000):
  ∃a,Xu B 12 [.one lp,.one lq] (.one (.Xn a))/\X5 a (Wh ts (Wu us)):=by
 obtain⟨c,o,i⟩:=Rm b (x:=.negSucc 0) (by unfold DE;decide);obtain⟨r,p,j⟩:=Oz b (z:= -1) i nM v h k;have g:PQ r (Wu us):=by rw[if_neg (by decide)]at j;exact j
 obtain⟨a,q,s⟩:=SY b u g t h.neg w (by simpa[Wu,X1]using k);refine⟨a,Xu.of (b.Wa _ _ rfl) ((o.Xk.and (p.Xk.and (q.Xk.and b.Xk))).mono fun E K ⟨e1,e2,l,f⟩=> ?_),s⟩;obtain⟨n,m,d,e,rfl⟩:=i.len;simp only[Xo,Xr,reduceIte,Nat.reduceEqDiff,Nat.reduceLeDiff,Nat.reduceAdd,x12,f,X4,e1,e2,l]
def tK (us:Z'):Z'->Z'->Prop
 |_,[]=>True
 |acc,t::ts=>Sz acc/\Sz (XG t.1 t.2 us)/\tK us (Wh acc (XG t.1 t.2 us)) ts
theorem yH {B:Xs}(k:Std B){s:PL}{b:Z'}(L:PQ s b)(I:Sz b)(n:b.length<1000):∀{d:I'} {c:Z'},X5 d c->Sz c->(∀t∈c,t.1≠0/\∀u∈b,XD (Xg t.2 u.2))->
  ∀(r:PL) (a:Z'),PQ r a->tK b a c->a.length+c.length*b.length<1000000->
  ∃e,PQ e (WY a c b)/\XS B fun E _=>tH E s d r e:=by
 intro d c h;induction h with
 |nil=>intro _ _ r a f _ _;exact⟨r,f,XS.of fun _ _=>.nil⟩
 |@cons ch t d c g h M=>
  intro l p r a f J m;obtain⟨x,y,z,w,rfl,S,A⟩:=g;obtain⟨i,j⟩:=p t (Zc ..);obtain⟨Q,m2,R⟩:=J;simp only[Zi]at m;rw[ZG,Z4]at m;obtain⟨o,D,F⟩:=bk k S l.head i A L I j (by omega);obtain⟨v,G,H⟩:=SY k f ⟨o,.Xn,F⟩ Q m2 (by omega) (by simp[XG];omega);have q:=UO _ a (XG t.1 t.2 b) (Ze _);have P:(XG t.1 t.2 b).length=b.length:=by simp[XG]
  obtain⟨e,N,O⟩:=M l.tail (fun t g=>p t (Zb _ g)) (.Xn v) (Wh a (XG t.1 t.2 b)) ⟨v,.Xn,H⟩ R (by omega);exact⟨e,N,(O.and (D.Xk.and G.Xk)).mono fun E K ⟨e1,e2,C⟩=>.cons A e2 C e1⟩
theorem yG {B:Xs}(c:Std B){lp s:PL}{ts a:Z'}(T:PQ lp ts)(G:PQ s a)(D:Sz ts)(F:Sz a)(H:∀t∈ts,t.1≠0/\∀u∈a,XD (Xg t.2 u.2))(l:tK a [] ts)(l1:ts.length<100000)(l2:a.length<1000)(I:ts.length*a.length<900000):
  ∃g,Xu B 38 [.one lp,.one s] (.X9 [.one g,.one (LA 0)])/\PQ g (WY [] ts a):=by
 obtain⟨f,j,e⟩:=T;have m:f.length=ts.length:=e.length;cases e with
 |nil=>
  refine⟨.Xn [],Xu.of (c.Wa _ _ rfl) ((c.Xk.and (XS.ge 1)).mono fun E K ⟨d,Q⟩=> ?_),⟨[],.Xn,.nil⟩⟩;obtain⟨b,rfl⟩:∃b,K=b+1:=⟨K-1,by omega⟩;simp only[Xo,Xr,reduceIte,Nat.reduceEqDiff,Nat.reduceLeDiff,Nat.reduceAdd,x38,x38_1,Xb,j.len,Zv]
 |@cons ch t f ts n h=>
  obtain⟨x,y,z,w,rfl,p1,A⟩:=n;obtain⟨q,r⟩:=H t (Zc ..);simp only[Zi]at l1 I m;rw[ZG,Z4]at I;obtain⟨m1,m2,J⟩:=l;rw[X6]at J;obtain⟨o,N,O⟩:=bk c p1 D.head q A G F r (by omega);obtain⟨v,P,C⟩:=SY c (lp:=.Xn []) (ts:=[]) ⟨[],.Xn,.nil⟩ ⟨o,.Xn,O⟩ Sz.nil m2 (by simp) (by simp[XG];omega);rw[X6]at C;obtain⟨g,V,W⟩:=yH c G F l2 h D.tail (fun t n=>H t (Zb _ n)) (.Xn v) (XG t.1 t.2 a) ⟨v,.Xn,C⟩ J (by simp[XG];omega);have S:WY [] (t::ts) a=WY (XG t.1 t.2 a) ts a:=by simp only[WY,X6]
  refine⟨g,Xu.of (c.Wa _ _ rfl) ((W.and (N.Xk.and (P.Xk.and (c.Xk.and (XS.ge (f.length+3)))))).mono fun E K ⟨M,e1,e2,d,Q⟩=> ?_),by rw[S];exact V⟩;obtain⟨b,rfl⟩:∃b,K=b+1:=⟨K-1,by omega⟩;obtain⟨L,q1,q2⟩:=Hz (K:=b+1) d j (by simp;omega) f (.Xn v) g M 1 b [⟨true,0,12,[],false,75⟩] (by simp) (by simp;omega) (by omega);have U:=fun(R:HF) (Y:IntKind)=>j.idx (h:=R) (k:=Y) (i:=0) (sz:=12) rfl (by simp[XF,A.1])
  have X:=A.1;have tk:(Xw t.2).take 8=Xw t.2:=Zd (by rw[Xc];omega);have Z:0<f.length+1:=by omega
  have first :Xb E (b+1) 0 [0,1,6,7] x38_1 (b+1) ⟨[(0,.one (.p lp)),(1,.one (.p s)),(6,.one (.own 0 0 0 0)),(7,LB 0)],[⟨false,0,12,[],false,75⟩]⟩=some (.exit 0,⟨L,[⟨true,0,12,[],false,75⟩]⟩):=by
   rw[Xb];simp only[Xo,Xr,VR,reduceIte,Nat.reduceEqDiff,Nat.reduceLeDiff,Nat.reduceAdd,x38_1,j.len,Z,U,Wj,Xc,XF,X,tk,Wb,Wf,d,X4,e1,e2,w1];exact q1
  simp only[Xo,Xr,VR,reduceIte,Nat.reduceEqDiff,Nat.reduceLeDiff,Nat.reduceAdd,x38,first,q2]
theorem bt {B:Xs}(d:Std B){g h:PL}{a b:Z'}(m:PQ g a)(n:PQ h b)(k:Sz a)(l:Sz b)(o:∀t∈a,t.1≠0/\∀u∈b,XD (Xg t.2 u.2))(f:tK b [] a)(p:a.length<100000)(q:b.length<1000)(r:a.length*b.length<900000):
  ∃c,Xu B 11 [.one g,.one h] (.one c)/\PQ c (WY [] a b):=by
 obtain⟨c,i,j⟩:=yG d m n k l o f p q r;refine⟨c,Xu.of (d.Wa _ _ rfl) ((i.Xk.and d.Xk).mono fun E K ⟨e1,e⟩=> ?_),j⟩;simp only[Xo,Xr,reduceIte,Nat.reduceEqDiff,Nat.reduceLeDiff,Nat.reduceAdd,x11,e,X4,e1]
theorem Uf {c:N'}{es:I'}(a:∀d∈es,d.length=12)(h:HF):WA 12 h (.p (.Xn (c::es))) 1 none=some (.p (.Xn es),[]):=by
 have f:Qx 12 (c::es)[1]? =true:=by
  cases es with
  |nil=>rfl
  |cons d es=>exact xQ (a d (by simp))
 have b:Nat.ble 1 (es.length+1)=true:=Py (by omega);have e:Nat.ble (es.length+1) (es.length+1)=true:=Py (Ze _);simp only[WA,Option.getD_none,Zi,b,e,f,Bool.and_self,cond_true,List.take_succ_cons,Yp,List.drop_succ_cons,Yh]
theorem Sl.VP {l:PL}{c:N'}{a:I'}(h:Sl l (c::a)):l=.Xn (c::a):=by
 rcases h with h|⟨h,_⟩
 ·exact h
 ·cases h
def QN (c:N'):Prop:=∃x y z u m,c=x::y::z::u::mo m/\XD m
theorem QN.len {c:N'}(h:QN c):c.length=12:=by
 obtain⟨x,y,z,u,m,rfl,h⟩:=h;simp[XF,h.1]
theorem B1 (a b:I'):pc a++b.map (·.map DL.p)=pc (a++b):=by simp[pc]
inductive RK (E:Xa)(fN:Nat):I'->I'->I'->I'->I'->Prop
 |AV {qs:I'}:RK E fN [] qs [] [] qs
 |Ga {c:N'} {ps:I'}:RK E fN (c::ps) [] [] (c::ps) []
 |left {x y z u x2 y2 z2 u2:PL} {m n:P'} {ps qs os ps' qs':I'} (hm:XD m) (hn:XD n) (hc:E.pure 151 [.agg (mo m),.agg (mo n)]=some (.one (LA 1))) (h:RK E fN ps ((x2::y2::z2::u2::mo n)::qs) os ps' qs'):
   RK E fN ((x::y::z::u::mo m)::ps) ((x2::y2::z2::u2::mo n)::qs) ((x::y::z::u::mo m)::os) ps' qs'
 |right {x y z u x2 y2 z2 u2 w1 w2 w3 w4:PL} {m n:P'} {ps qs os ps' qs':I'} (hm:XD m) (hn:XD n) (hc:E.pure 151 [.agg (mo m),.agg (mo n)]=some (.one (.int .i64 (.negSucc 0)))) (hf:E.pure fN [.agg [x2,y2,z2,u2]]=some (.agg [w1,w2,w3,w4])) (h:RK E fN ((x::y::z::u::mo m)::ps) qs os ps' qs'):
   RK E fN ((x::y::z::u::mo m)::ps) ((x2::y2::z2::u2::mo n)::qs) ((w1::w2::w3::w4::mo n)::os) ps' qs'
 |zero {x y z u x2 y2 z2 u2 w1 w2 w3 w4 r1 r2 r3 r4:PL} {m n:P'} {ps qs os ps' qs':I'} (hm:XD m) (hn:XD n) (hc:E.pure 151 [.agg (mo m),.agg (mo n)]=some (.one (LA 0))) (hf:E.pure fN [.agg [x2,y2,z2,u2]]=some (.agg [w1,w2,w3,w4]))
   (ha:E.pure 157 [.agg [x,y,z,u],.agg [w1,w2,w3,w4]]=some (.agg [r1,r2,r3,r4])) (hs:E.pure 158 [.agg [r1,r2,r3,r4]]=some (.one (LA 0))) (h:RK E fN ps qs os ps' qs'):
   RK E fN ((x::y::z::u::mo m)::ps) ((x2::y2::z2::u2::mo n)::qs) os ps' qs'
 |both {x y z u x2 y2 z2 u2 w1 w2 w3 w4 r1 r2 r3 r4:PL} {m n:P'} {s:Int} {ps qs os ps' qs':I'} (hm:XD m) (hn:XD n) (hc:E.pure 151 [.agg (mo m),.agg (mo n)]=some (.one (LA 0))) (hf:E.pure fN [.agg [x2,y2,z2,u2]]=some (.agg [w1,w2,w3,w4]))
   (ha:E.pure 157 [.agg [x,y,z,u],.agg [w1,w2,w3,w4]]=some (.agg [r1,r2,r3,r4])) (hs:E.pure 158 [.agg [r1,r2,r3,r4]]=some (.one (.int .i64 s))) (h0:Oi s (.ofNat 0)=false) (h:RK E fN ps qs os ps' qs'):
   RK E fN ((x::y::z::u::mo m)::ps) ((x2::y2::z2::u2::mo n)::qs) ((r1::r2::r3::r4::mo m)::os) ps' qs'
theorem zr {E:Xa}{K t:Nat}(T:E.mode=md)(a0:md t=.pure)(a1:fI t=t)(a2:∀vs:X',vw t vs []=vs):∀(g j L D F:I'),RK E t g j L D F->(∀d∈g,d.length=12)->(∀d∈j,d.length=12)->
  ∀(I J:PL) (k v:Nat) (o:I') (G:V'),Sl I g->Sl J j->o.length+g.length+j.length<2000000->g.length+j.length<k->
  ∃a R Q q r,Xb E K 0 [0,1,2,7] x118_1 k ⟨[(0,.one (.p I)),(1,.one (.p J)),(2,.one (.p (.fn t []))),(7,.one (.own 0 v 0 o.length))],⟨false,v,12,pc o,false,75⟩::G⟩=some (.exit 0,⟨a,⟨false,Q,12,pc (o++L),false,75⟩::R⟩)/\(Xh a 0=some (.one (.p q))/\Xh a 1=some (.one (.p r))/\Xh a 2=some (.one (.p (.fn t [])))/\Xh a 7=some (.one (.own 0 Q 0 (o++L).length)))/\Sl q D/\Sl r F:=by
 have cv:∀(h:HF) (l:Y'),Rc E h [.one (.p (.fn t [])),.agg l]=VB E h t [.agg l]:=fun h l=>by show VB E h (fI t) (vw t [.agg l] [])=_;rw[a1,a2]
 have hv:∀(l:Y'),XL E .Sd [.one (.p (.fn t [])),.agg l]=Ts E t:=fun l=>by show Ts E (fI t)=_;rw[a1]
 have hw:Xl E .Sd=false:=rfl;intro g j L D F h;induction h with
 |@AV j=>
  intro b f I J k v o G w A U S;obtain⟨k,rfl⟩:∃N,k=N+1:=⟨k-1,by omega⟩;have :∃a,Xb E K 0 [0,1,2,7] x118_1 (k+1) ⟨[(0,.one (.p I)),(1,.one (.p J)),(2,.one (.p (.fn t []))),(7,.one (.own 0 v 0 o.length))],⟨false,v,12,pc o,false,75⟩::G⟩=some (.exit 0,⟨a,⟨false,v,12,pc o,false,75⟩::G⟩)/\(Xh a 0=some (.one (.p I))/\Xh a 1=some (.one (.p J))/\Xh a 2=some (.one (.p (.fn t [])))/\Xh a 7=some (.one (.own 0 v 0 o.length))):=by
   apply VO
   ·rw[Xb];simp only[Xo,Xr,VR,reduceIte,Nat.reduceEqDiff,x118_1,w.len,Zv];rfl
   ·simp only[Xo,reduceIte,Nat.reduceEqDiff,and_self]
  obtain⟨a,H,M⟩:=this;exact⟨a,G,v,I,J,by simpa using H,by simpa using M,w,A⟩
 |@Ga c g=>
  intro b f I J k v o G w A U S;obtain⟨k,rfl⟩:∃N,k=N+1:=⟨k-1,by omega⟩;have :∃a,Xb E K 0 [0,1,2,7] x118_1 (k+1) ⟨[(0,.one (.p I)),(1,.one (.p J)),(2,.one (.p (.fn t []))),(7,.one (.own 0 v 0 o.length))],⟨false,v,12,pc o,false,75⟩::G⟩=some (.exit 0,⟨a,⟨false,v,12,pc o,false,75⟩::G⟩)/\(Xh a 0=some (.one (.p I))/\Xh a 1=some (.one (.p J))/\Xh a 2=some (.one (.p (.fn t [])))/\Xh a 7=some (.one (.own 0 v 0 o.length))):=by
   apply VO
   ·rw[Xb];simp only[Xo,Xr,VR,reduceIte,Nat.reduceEqDiff,x118_1,w.len,A.len,YD,Zv];rfl
   ·simp only[Xo,reduceIte,Nat.reduceEqDiff,and_self]
  obtain⟨a,H,M⟩:=this;exact⟨a,G,v,I,J,by simpa using H,by simpa using M,w,A⟩
 |@left x y z u x2 W X V m n g j os D F hm hn Z h ih=>
  intro b f I J k v o G w A U S;obtain⟨k,rfl⟩:∃N,k=N+1:=⟨k-1,by omega⟩;simp only[Zi]at U S;obtain rfl:=Sl.VP w;obtain rfl:=Sl.VP A;have O:=hm.1;have P:=hn.1;have tm:(Xw m).take 8=Xw m:=Zd (by rw[Xc];omega);have tn:(Xw n).take 8=Xw n:=Zd (by rw[Xc];omega);have ip:=fun(B:HF) (C:IntKind)=>w.idx (h:=B) (k:=C) (i:=0) (sz:=12) rfl (by simp[XF,O])
  have iq:=fun(B:HF) (C:IntKind)=>A.idx (h:=B) (k:=C) (i:=0) (sz:=12) rfl (by simp[XF,P])
  have s1:=Uf (c:=x::y::z::u::mo m) (es:=g) fun d e=>b d (Zb _ e)
  have s2:=Uf (c:=x2::W::X::V::mo n) (es:=j) fun d e=>f d (Zb _ e)
  have l1:0<g.length+1:=by omega
  have l2:0<j.length+1:=by omega
  have f2:(o.length+1)*128<=lim:=by unfold lim;omega
  have f3:o.length+1<=9223372036854775807:=by omega
  obtain⟨a,R,Q,q,r,H,M,Y⟩:=ih (fun d e=>b d (Zb _ e)) f (.Xn g) (.Xn ((x2::W::X::V::mo n)::j)) k (v+1) (o++[(x::y::z::u::mo m)]) (G++[⟨false,0,12,[.p x::.p y::.p z::.p u::Xw m],false,75⟩]) .Xn .Xn (by simp only[Zm,Zi,Zr];omega) (by first |omega|(simp only[Zi];omega));refine⟨a,R,Q,q,r,?_,by simpa using M,Y⟩;rw[Zq,ZY,Zm,ZO]at H;rw[Xb];simp only[Xo,Xr,VR,reduceIte,Nat.reduceEqDiff,Nat.reduceLeDiff,Nat.reduceLT,Nat.reduceAdd,x118_1,l1,l2,ip,iq,O,P,tm,tn,f2,f3,s1,Wj,Xc,XF,Wb,Wf,T,X4,Z,Wm,VL];exact H
 |@right x y z u x2 W X V w1 w2 w3 w4 m n g j os D F hm hn Z hf h ih=>
  intro b f I J k v o G w A U S;obtain⟨k,rfl⟩:∃N,k=N+1:=⟨k-1,by omega⟩;simp only[Zi]at U S;obtain rfl:=Sl.VP w;obtain rfl:=Sl.VP A;have O:=hm.1;have P:=hn.1;have tm:(Xw m).take 8=Xw m:=Zd (by rw[Xc];omega);have tn:(Xw n).take 8=Xw n:=Zd (by rw[Xc];omega);have ip:=fun(B:HF) (C:IntKind)=>w.idx (h:=B) (k:=C) (i:=0) (sz:=12) rfl (by simp[XF,O])
  have iq:=fun(B:HF) (C:IntKind)=>A.idx (h:=B) (k:=C) (i:=0) (sz:=12) rfl (by simp[XF,P])
  have s1:=Uf (c:=x::y::z::u::mo m) (es:=g) fun d e=>b d (Zb _ e)
  have s2:=Uf (c:=x2::W::X::V::mo n) (es:=j) fun d e=>f d (Zb _ e)
  have l1:0<g.length+1:=by omega
  have l2:0<j.length+1:=by omega
  have f2:(o.length+1)*128<=lim:=by unfold lim;omega
  have f3:o.length+1<=9223372036854775807:=by omega
  obtain⟨a,R,Q,q,r,H,M,Y⟩:=ih b (fun d e=>f d (Zb _ e)) (.Xn ((x::y::z::u::mo m)::g)) (.Xn j) k (v+1) (o++[(w1::w2::w3::w4::mo n)]) (G++[⟨false,0,12,[.p w1::.p w2::.p w3::.p w4::Xw n],false,75⟩]) .Xn .Xn (by simp only[Zm,Zi,Zr];omega) (by first |omega|(simp only[Zi];omega));refine⟨a,R,Q,q,r,?_,by simpa using M,Y⟩;rw[Zq,ZY,Zm,ZO]at H;rw[Xb];simp only[Xo,Xr,VR,reduceIte,Nat.reduceEqDiff,Nat.reduceLeDiff,Nat.reduceLT,Nat.reduceAdd,x118_1,l1,l2,ip,iq,cv,hv,hw,O,P,tm,tn,f2,f3,s2,Wj,Xc,XF,Wb,Wf,T,a0,X4,Z,hf,Wm,VL];exact H
 |@zero x y z u x2 W X V w1 w2 w3 w4 r1 r2 r3 r4 m n g j os D F hm hn Z hf ha hs h ih=>
  intro b f I J k v o G w A U S;obtain⟨k,rfl⟩:∃N,k=N+1:=⟨k-1,by omega⟩;simp only[Zi]at U S;obtain rfl:=Sl.VP w;obtain rfl:=Sl.VP A;have O:=hm.1;have P:=hn.1;have tm:(Xw m).take 8=Xw m:=Zd (by rw[Xc];omega);have tn:(Xw n).take 8=Xw n:=Zd (by rw[Xc];omega);have ip:=fun(B:HF) (C:IntKind)=>w.idx (h:=B) (k:=C) (i:=0) (sz:=12) rfl (by simp[XF,O])
  have iq:=fun(B:HF) (C:IntKind)=>A.idx (h:=B) (k:=C) (i:=0) (sz:=12) rfl (by simp[XF,P])
  have s1:=Uf (c:=x::y::z::u::mo m) (es:=g) fun d e=>b d (Zb _ e)
  have s2:=Uf (c:=x2::W::X::V::mo n) (es:=j) fun d e=>f d (Zb _ e)
  have l1:0<g.length+1:=by omega
  have l2:0<j.length+1:=by omega
  have f2:(o.length+1)*128<=lim:=by unfold lim;omega
  have f3:o.length+1<=9223372036854775807:=by omega
  obtain⟨a,R,Q,q,r,H,M,Y⟩:=ih (fun d e=>b d (Zb _ e)) (fun d e=>f d (Zb _ e)) (.Xn g) (.Xn j) k v o (G++[⟨false,0,4,[[.p r1,.p r2,.p r3,.p r4]],false,48⟩]) .Xn .Xn (by omega) (by omega);refine⟨a,R,Q,q,r,?_,M,Y⟩;rw[Xb];simp only[Xo,Xr,VR,reduceIte,Nat.reduceEqDiff,Nat.reduceLeDiff,Nat.reduceAdd,x118_1,l1,l2,ip,iq,cv,hv,hw,O,P,tm,tn,s1,s2,Wj,Xc,XF,Wb,Wf,T,a0,X4,Z,hf,ha,hs];exact H
 |@both x y z u x2 W X V w1 w2 w3 w4 r1 r2 r3 r4 m n s g j os D F hm hn Z hf ha hs h0 h ih=>
  intro b f I J k v o G w A U S;obtain⟨k,rfl⟩:∃N,k=N+1:=⟨k-1,by omega⟩;simp only[Zi]at U S;obtain rfl:=Sl.VP w;obtain rfl:=Sl.VP A;have O:=hm.1;have P:=hn.1;have tm:(Xw m).take 8=Xw m:=Zd (by rw[Xc];omega);have tn:(Xw n).take 8=Xw n:=Zd (by rw[Xc];omega);have ip:=fun(B:HF) (C:IntKind)=>w.idx (h:=B) (k:=C) (i:=0) (sz:=12) rfl (by simp[XF,O])
  have iq:=fun(B:HF) (C:IntKind)=>A.idx (h:=B) (k:=C) (i:=0) (sz:=12) rfl (by simp[XF,P])
  have s1:=Uf (c:=x::y::z::u::mo m) (es:=g) fun d e=>b d (Zb _ e)
  have s2:=Uf (c:=x2::W::X::V::mo n) (es:=j) fun d e=>f d (Zb _ e)
  have l1:0<g.length+1:=by omega
  have l2:0<j.length+1:=by omega
  have f2:(o.length+1)*128<=lim:=by unfold lim;omega
  have f3:o.length+1<=9223372036854775807:=by omega
  obtain⟨a,R,Q,q,r,H,M,Y⟩:=ih (fun d e=>b d (Zb _ e)) (fun d e=>f d (Zb _ e)) (.Xn g) (.Xn j) k (v+1) (o++[(r1::r2::r3::r4::mo m)]) (G++[⟨false,0,4,[[.p r1,.p r2,.p r3,.p r4]],false,48⟩,⟨false,0,12,[.p r1::.p r2::.p r3::.p r4::Xw m],false,75⟩]) .Xn .Xn (by simp only[Zm,Zi,Zr];omega) (by first |omega|(simp only[Zi];omega));refine⟨a,R,Q,q,r,?_,by simpa using M,Y⟩;rw[Zq,ZY,Zm,ZO]at H;rw[Xb];simp only[Xo,Xr,VR,reduceIte,Nat.reduceEqDiff,Nat.reduceLeDiff,Nat.reduceLT,Nat.reduceAdd,x118_1,l1,l2,ip,iq,cv,hv,hw,O,P,tm,tn,f2,f3,s1,s2,Wj,Xc,XF,Wb,Wf,T,a0,X4,Z,hf,ha,hs,h0,Wm,VL];exact H
def Ir (E:Xa)(fN:Nat)(c d:N'):Prop:=∃x y z u w1 w2 w3 w4 m,c=x::y::z::u::mo m/\d=w1::w2::w3::w4::mo m/\XD m/\E.pure fN [.agg [x,y,z,u]]=some (.agg [w1,w2,w3,w4])
theorem eK {E:Xa}{K c:Nat}{H:PL}(r:E.mode=md)(s:md c=.pure)(n:fI c=c)(q:∀P:X',vw c P []=P){b a:I'}(O:Sl H b)(W:b.length<1000000)(f:XB (Ir E c) b a):∀(d i k v:Nat) (o:I') (G:V'),i+d=b.length->d<k->o.length+d<3000000->
  ∃g A w,Xb E K 0 [2,7,92,93,94] x118_2 k ⟨[(2,.one (.p (.fn c []))),(7,.one (.own 0 v 0 o.length)),(92,.one (.p H)),(93,LB b.length),(94,LB i)],⟨false,v,12,pc o,false,75⟩::G⟩=
    some (.exit 3,⟨g,⟨false,w,12,pc (o++a.drop i),false,75⟩::A⟩)/\Xh g 7=some (.one (.own 0 w 0 (o++a.drop i).length))
 |_,_,0,_,_,_,_,h,_=>by omega
 |0,i,k+1,v,o,G,hi,_,_=>by
  obtain rfl:i=b.length:=by omega
  have :∃g,Xb E K 0 [2,7,92,93,94] x118_2 (k+1) ⟨[(2,.one (.p (.fn c []))),(7,.one (.own 0 v 0 o.length)),(92,.one (.p H)),(93,LB b.length),(94,LB b.length)],⟨false,v,12,pc o,false,75⟩::G⟩=
    some (.exit 3,⟨g,⟨false,v,12,pc o,false,75⟩::G⟩)/\Xh g 7=some (.one (.own 0 v 0 o.length)):=by
   apply VO
   ·rw[Xb];simp only[Xo,Xr,reduceIte,Nat.reduceEqDiff,x118_2,Zv];rfl
   ·simp only[Xo,reduceIte,Nat.reduceEqDiff]
  obtain⟨g,t,B⟩:=this;have e:a.drop b.length=[]:=Zo (by rw[f.length];omega);exact⟨g,G,v,by rw[e];simpa using t,by rw[e];simpa using B⟩
 |d+1,i,k+1,v,o,G,hi,hk,ho=>by
  have F:i<b.length:=by omega
  have X:=f.length;have j:i<a.length:=by omega
  obtain⟨c0,U,x,y,z,u,w1,I,J,L,m,rfl,C,Y,D⟩:=f.get i _ (Zg j);have M:a.drop i=(w1::I::J::L::mo m)::a.drop (i+1):=by rw[Z5 j,C]
  have Q:∀(h:HF) (l:Y'),Rc E h [.one (.p (.fn c [])),.agg l]=VB E h c [.agg l]:=fun h l=>by show VB E h (fI c) (vw c [.agg l] [])=_;rw[n,q]
  have Z:∀(l:Y'),XL E .Sd [.one (.p (.fn c [])),.agg l]=Ts E c:=fun l=>by show Ts E (fI c)=_;rw[n]
  have hw:Xl E .Sd=false:=rfl;have N:=Y.1;have tm:(Xw m).take 8=Xw m:=Zd (by rw[Xc];omega);have a0:(Xw m).drop 8=[]:=Zo (by rw[Xc];omega);have ip:=fun(V:HF) (kd:IntKind)=>O.idx (h:=V) (k:=kd) (sz:=12) U (by simp[XF,N])
  have R:Xe .i64 (.ofNat (i+1))=.ofNat (i+1):=wrap_i64 (by omega);have S:(o.length+1)*128<=lim:=by unfold lim;omega
  have T:o.length+1<=9223372036854775807:=by omega
  obtain⟨g,A,w,t,B⟩:=eK r s n q O W f d (i+1) k (v+1) (o++[w1::I::J::L::mo m]) (G++[⟨false,0,12,[.p x::.p y::.p z::.p u::Xw m],false,75⟩,⟨false,0,12,[.p w1::.p I::.p J::.p L::Xw m],false,75⟩]) (by omega) (by omega) (by simp;omega);refine⟨g,A,w,?_,by rw[M];simpa using B⟩;rw[Zq,ZY,Zm,ZO,<-M]at t;rw[Xb];simp only[Xo,Xr,VR,reduceIte,Nat.reduceEqDiff,Nat.reduceLeDiff,Nat.reduceLT,Nat.reduceAdd,x118_2,F,ip,Q,Z,hw,N,tm,R,S,T,Wj,Xc,r,s,D,Wm,VL];exact t
def kK (f:Rat->Rat)(ts:Z'):Z':=ts.map fun t=>(f t.1,t.2)
structure DM (B:Xs)(fN:Nat)(f:Rat->Rat):Prop where
 md:md fN=.pure
 fF:fI fN=fN
 fA:∀vs:X',vw fN vs []=vs
 ret:∀{c:N'} {y:Rat},Ri c y->Sq y->∃d,Xu B fN [.agg c] (.agg d)/\Ri d (f y)
 sq:∀{y:Rat},Sq y->Sq (f y)
theorem W0.form {c:N'}{t:Qm}(h:W0 c t):QN c:=by
 obtain⟨n,a,d,b,rfl,-,h⟩:=h;exact⟨_,_,_,_,_,rfl,h⟩
theorem X5.bU {b:I'}{e:Z'}(h:X5 b e):∀c∈b,QN c:=by
 induction h with
 |nil=>intro c a;cases a
 |cons h _ d=>
  intro c a;rcases Zj.1 a with rfl|a
  ·exact W0.form h
  ·exact d c a
theorem rK {B:Xs}{k:Nat}{f:Rat->Rat}(m:DM B k f):∀{p:I'} {j:Z'},X5 p j->Sz j->∃g,X5 g (kK f j)/\XS B fun E _=>XB (Ir E k) p g
 |_,_,.nil,_=>⟨[],.nil,XS.of fun _ _=>.nil⟩
 |_,_,.cons (x:=c) (y:=u) v h,hs=>by
  obtain⟨g,r,s⟩:=rK m h hs.tail;have i:=v;obtain⟨n,a,d,b,rfl,q,o⟩:=i;obtain⟨e,t,l⟩:=m.ret q hs.head;obtain⟨C,w,A,z,rfl⟩:=l.len;exact⟨_,.cons (W0.mk l o) r,(s.and t.Xk).mono fun E K ⟨e1,e2⟩=>.cons ⟨_,_,_,_,_,_,_,_,_,rfl,rfl,o,e2⟩ e1⟩
theorem uW {B:Xs}(S:Std B){Q:Nat}{f:Rat->Rat}(T:DM B Q f):∀(n:Nat) {l q:I'} {m s:Z'},m.length+s.length<=n->X5 l m->X5 q s->Sz m->Sz s->
  ∃d b g a,X5 (d++(b++a)) (Wh m (kK f s))/\(XS B fun E _=>RK E Q l q d b g)/\(XS B fun E _=>XB (Ir E Q) g a)/\(∀c∈b,QN c)/\a.length=g.length/\b.length<=l.length/\g.length<=q.length/\d.length<=l.length+q.length:=by
 intro n;induction n with
 |zero=>
  intro l q m s N U L J A;cases U with
  |cons _ _=>simp at N
  |nil=>cases L with
   |cons _ _=>simp at N
   |nil=>exact⟨[],[],[],[],by rw[X6];exact .nil,XS.of fun _ _=>.AV,XS.of fun _ _=>.nil,(fun _ h=>by cases h),rfl,Ze _,Ze _,by simp⟩
 |succ n X=>
  intro l q m s N U L J A;cases U with
  |nil=>
   obtain⟨a,j,p⟩:=rK T L A;have e1:=j.length;have e2:=L.length;simp only[kK,ZP]at e1;exact⟨[],[],q,a,by rw[X6];exact j,XS.of fun _ _=>.AV,p,(fun _ h=>by cases h),by omega,Ze _,Ze _,by simp⟩
  |@cons c t l m M h=>cases L with
   |nil=>exact⟨[],c::l,[],[],by rw[show kK f []=[]from rfl,W9];simpa using(XB.cons M h:X5 (c::l) (t::m)),XS.of fun _ _=>.Ga,XS.of fun _ _=>.nil,X5.bU (.cons M h),rfl,Ze _,Ze _,by simp⟩
   |@cons c2 u q s hu k=>
    simp only[Zi]at N⊢;have V:=M;have W:=hu;obtain⟨x,y,z,w,rfl,p1,G⟩:=V;obtain⟨x2,y2,z2,w2,rfl,q1,H⟩:=W;have C:=OJ S G.1 H.1;obtain⟨e,Y,Z⟩:=T.ret q1 A.head;obtain⟨n1,a1,d1,b1,rfl⟩:=Z.len;show∃d b g a,X5 (d++(b++a)) (Wh (t::m) ((f u.1,u.2)::kK f s))/\_;rw[Ra];rcases VX t.2 u.2 with e|e|e
    ·rw[if_pos e];rw[e]at C;obtain⟨o,b,g,a,j,p,i,D,v,F,g6,R⟩:=X (by simp;omega) h (.cons hu k) J.tail A;simp only[Zi]at g6 R;exact⟨_,_,_,_,.cons M j,(p.and C.Xk).mono fun E K ⟨e1,e2⟩=>.left G H e2 e1,i,D,v,by omega,by omega,by simp;omega⟩
    ·rw[if_neg (by rw[e];simp),if_pos e];rw[e]at C;obtain⟨o,b,g,a,j,p,i,D,v,F,g6,R⟩:=X (by simp;omega) (.cons M h) k J A.tail;simp only[Zi]at F R;exact⟨_,_,_,_,.cons (W0.mk Z H) j,(p.and (C.Xk.and Y.Xk)).mono fun E K ⟨e1,e2,I⟩=>.right G H e2 I e1,i,D,v,by omega,by omega,by simp;omega⟩
    ·rw[if_neg (by rw[e];simp),if_neg (by rw[e];simp)];rw[e]at C;obtain⟨o,b,g,a,j,p,i,w3,w4,w5,w6,w7⟩:=X (by omega) h k J.tail A.tail;obtain⟨r,D,v⟩:=iA S p1 Z J.head (T.sq A.head);have F:=Nv S v;obtain⟨n',a',d',b',rfl⟩:=v.len;by_cases h0:t.1+f u.1=0
     ·rw[if_pos h0];rw[h0]at F;exact⟨_,_,_,_,j,(p.and (C.Xk.and (D.Xk.and (F.Xk.and Y.Xk)))).mono fun E K ⟨e1,e2,I,O,P⟩=>.zero G H e2 P I O e1,i,w3,w4,by omega,by omega,by omega⟩
     ·rw[if_neg h0];exact⟨_,_,_,_,.cons (W0.mk v G) j,(p.and (C.Xk.and (D.Xk.and (F.Xk.and Y.Xk)))).mono fun E K ⟨e1,e2,I,O,P⟩=>.both G H e2 P I O (yq h0) e1,i,w3,w4,by omega,by omega,by simp;omega⟩
theorem iX {B:Xs}(y:Std B){G:Nat}{f:Rat->Rat}(b:DM B G f){D F:PL}{u v:Z'}(n:PQ D u)(r:PQ F v)(h1:Sz u)(h2:Sz v)(l1:u.length<400000)(l2:v.length<400000):
  ∃e,Xu B 118 [.one D,.one F,.one (.fn G [])] (.one (.Xn e))/\X5 e (Wh u (kK f v)):=by
 obtain⟨j,P,n⟩:=n;obtain⟨k,Q,r⟩:=r;have S:=n.length;have T:=r.length;obtain⟨o,a,t,i,g1,g2,w,g3,g4,g5,g6,g7⟩:=uW y b _ (Ze _) n r h1 h2;refine⟨o++(a++i),Xu.of (y.Wa _ _ rfl) ((g2.and (w.and (y.Xk.and (XS.ge (j.length+k.length+1))))).mono fun E K ⟨e1,A,m,hK⟩=> ?_),g1⟩;obtain⟨T',R,v',a0,a1,L,⟨k2,k3,k4,M⟩,k6,N⟩:=zr (K:=K) m b.md b.fF b.fA j k o a t e1 (fun d l=>QN.len (X5.bU n d l)) (fun d l=>QN.len (X5.bU r d l)) D F K 0 [] [] P Q (by simp;omega) (by omega);simp only[ZF,Zr]at L M;obtain⟨T2,G2,v2,O,m2⟩:=eK (K:=K) m b.md b.fF b.fA N (by omega) A t.length 0 K (v'+1) (o++a) R (by omega) (by omega) (by simp;omega);rw[Yh,Zq]at O m2;have U:Xe .i64 (.ofNat (j.length+k.length))=.ofNat (j.length+k.length):=wrap_i64 (by omega);have V:128*(j.length+k.length)<=lim:=by unfold lim;omega
 have W:j.length+k.length<=9223372036854775807:=by omega
 have X:(o.length+a.length)*128<=lim:=by unfold lim;omega
 have Y:o.length+a.length<=9223372036854775807:=by omega
 have Z:(a.map (·.map DL.p)).all (fun c=>decide (c.length=12))=true:=by
  rw[ZI];intro c H;simp only[ZM]at H;obtain⟨d,l,rfl⟩:=H;simp[QN.len (g3 d l)]
 have f6:(a.map (·.map DL.p)).length=a.length:=by simp
 have J:=WV (o++(a++i)) (Ze _);have I:=fun h=>Ve 5 h (o++(a++i))
 have g:=O;rw[Zm]at g;have s:=L;simp only[pc,ZN]at s;simp only[Xo,Xr,reduceIte,Nat.reduceEqDiff,Nat.reduceLeDiff,Nat.reduceAdd,Zw,x118,P.len,Q.len,U,V,W];have z:=fun h=>k6.chunks (h:=h)
 have C:(List.map (fun x=>List.map DL.p x) o).length=o.length:=by simp
 have q:=B1 o a;simp only[pc]at q;simp only[Xo,Xr,reduceIte,Nat.reduceEqDiff,Nat.reduceLeDiff,s,k2,k3,k4,M,z,X,Y,Z,f6,C,q,N.len];simp only[pc]at g J I;rw[g];simp only[Xo,Xr,reduceIte,Nat.reduceEqDiff,beq_self_eq_true,m2,J,I,ZP,Ze]
theorem funId {B:Xs}(g:Std B):DM B 119 id where
 md:=rfl
 fF:=rfl
 fA:=fun f=>by show(bif Nat.blt _ aM then f++[]else _)=f;rw[ZE];rfl
 ret:=fun{c y} e i=>by
  obtain⟨n,a,d,b,rfl⟩:=e.len;refine⟨_,Xu.of (g.Wa _ _ rfl) (XS.of fun K n=> ?_),e⟩;simp only[Xo,Xr,reduceIte,Nat.reduceEqDiff,Nat.reduceLeDiff,Nat.reduceAdd,x119]
 sq:=fun h=>h
theorem HU {B:Xs}(b:Std B):DM B 104 (fun x=> -x) where
 md:=rfl
 fF:=rfl
 fA:=fun a=>by show(bif Nat.blt _ aM then a++[]else _)=a;rw[ZE];rfl
 ret:=fun c d=>iy b c d
 sq:=fun h=>h.neg
theorem E6 (a:Z'):kK id a=a:=by simp[kK]
theorem Ci (a:Z'):kK (fun x=> -x) a=Wu a:=by
 simp[kK,Wu,X1,Rat.neg_mul,Rat.one_mul]
theorem ma {B:Xs}(b:Std B){g lq:PL}{c d:Z'}(k:PQ g c)(l:PQ lq d)(i:Sz c)(j:Sz d)(m:c.length<400000)(n:d.length<400000):
  ∃a,Xu B 68 [.one g,.one lq] (.one (.Xn a))/\X5 a (Wh c d):=by
 obtain⟨a,h,f⟩:=iX b (funId b) k l i j m n;rw[E6]at f;refine⟨_,Xu.of (b.Wa _ _ rfl) ((h.Xk.and b.Xk).mono fun E K ⟨e1,e⟩=> ?_),f⟩;simp only[Xo,Xr,reduceIte,Nat.reduceEqDiff,Nat.reduceLeDiff,Nat.reduceAdd,x68,e,X4,e1]
theorem lW {B:Xs}(b:Std B){lp f:PL}{ts c:Z'}(j:PQ lp ts)(k:PQ f c)(h:Sz ts)(i:Sz c)(l:ts.length<400000)(m:c.length<400000):
  ∃a,Xu B 67 [.one lp,.one f] (.one (.Xn a))/\X5 a (Wh ts (Wu c)):=by
 obtain⟨a,g,e⟩:=iX b (HU b) j k h i l m;rw[Ci]at e;refine⟨_,Xu.of (b.Wa _ _ rfl) ((g.Xk.and b.Xk).mono fun E K ⟨e1,d⟩=> ?_),e⟩;simp only[Xo,Xr,reduceIte,Nat.reduceEqDiff,Nat.reduceLeDiff,Nat.reduceAdd,x67,d,X4,e1]
theorem tx (c:N'):Wc (c.map DL.p)=true:=by
 induction c with
 |nil=>rfl
 |cons a c b=>exact b
theorem X0 (m:P'):Wc (Xw m)=true:=by rw[<-Wj];exact tx _
theorem UC {a:Type}(G l:List a)(n:Nat):(G++l)[G.length+n]? =l[n]? :=by
 rw[ZJ (Nat.le_add_right _ _),Nat.add_sub_cancel_left]
theorem TQ {a:Type}(G l:List a)(n:Nat)(x:a):(G++l).set (G.length+n) x=G++l.set n x:=by
 rw[List.set_append_right _ _ (Nat.le_add_right _ _),Nat.add_sub_cancel_left]
inductive cD (E:Xa)(c:N')(m:P'):I'->I'->Prop
 |nil:cD E c m [] []
 |cons {x y z u r1 r2 r3 r4:PL} {k:P'} {es os:I'} (hk:XD k) (hs:XD (Xg m k)) (h1:E.pure 130 [.agg (mo m),.agg (mo k)]=some (.X9 [.agg (mo (Xg m k)),.one (LA 0)]))
   (h2:E.pure 64 [.agg c,.agg [x,y,z,u]]=some (.agg [r1,r2,r3,r4])) (h:cD E c m es os):cD E c m ((x::y::z::u::mo k)::es) ((r1::r2::r3::r4::mo (Xg m k))::os)
theorem iD {B:Xs}(j:Std B){c:N'}{z:Rat}(p:Ri c z)(u:Sq z){m:P'}(s:XD m):∀{l:I'} {i:Z'},X5 l i->Sz i->(∀t∈i,XD (Xg m t.2))->
  ∃f,X5 f (XG z m i)/\XS B fun E _=>cD E c m l f
 |_,_,.nil,_,_=>⟨[],.nil,XS.of fun _ _=>.nil⟩
 |_,_,.cons (x:=d) (y:=t) k h,hs,ho=>by
  obtain⟨f,w,A⟩:=iD j p u s h hs.tail (fun t k=>ho t (Zb _ k));have g:=ho t (Zc ..);obtain⟨n,a,d,b,rfl,q,r⟩:=k;obtain⟨e,C,o⟩:=bu j p q u hs.head;have D:=eJ j s r g;obtain⟨I,F,H,G,rfl⟩:=o.len;exact⟨_,.cons (W0.mk o g) w,(A.and (C.Xk.and D.Xk)).mono fun E K ⟨e1,e2,v⟩=>.cons r g v e2 e1⟩
abbrev NX (c1 c2 c3 c4:PL):Xx:=⟨false,0,4,[[.p c1,.p c2,.p c3,.p c4]],false,48⟩
abbrev HA (m:P'):Xx:=⟨false,0,8,[Xw m],false,73⟩
abbrev SJ (v:Nat)(o:I'):Xx:=⟨false,v,12,pc o,false,75⟩
theorem nZ {E:Xa}{K k v i:Nat}{c1 c2 c3 c4 e x y z u f g j l:PL}{m a:P'}{b o:I'}(d:E.mode=md)(N:Sl e b)(V:b.length<1000000)(W:o.length<1000000)(H:XD m)(F:XD a)(n:b[i]? =some (x::y::z::u::mo a))(I:XD (Xg m a))
  (B:E.pure 130 [.agg (mo m),.agg (mo a)]=some (.X9 [.agg (mo (Xg m a)),.one (LA 0)])) (C:E.pure 64 [.agg [c1,c2,c3,c4],.agg [x,y,z,u]]=some (.agg [f,g,j,l])) (G:V'):
  ∃r,Xb E K 0 [3,4,8,19,20,21] x171_1 (k+1) ⟨[(3,.one (.ptr 0 0 0 0)),(4,.one (.ptr 1 0 0 0)),(8,.one (.own 2 v 0 o.length)),(19,.one (.p e)),(20,LB b.length),(21,LB i)],NX c1 c2 c3 c4::HA m::SJ v o::G⟩=
   Xb E K 0 [3,4,8,19,20,21] x171_1 k ⟨[(3,.one (.ptr 0 0 0 0)),(4,.one (.ptr 1 0 0 0)),(8,.one (.own 2 (v+1) 0 (o++[f::g::j::l::mo (Xg m a)]).length)),(19,.one (.p e)),(20,LB b.length),(21,LB (i+1))],NX c1 c2 c3 c4::HA m::SJ (v+1) (o++[f::g::j::l::mo (Xg m a)])::r⟩:=by
 have c:i<b.length:=(Zf.mp n).1;have M:=H.1;have q:=F.1;have s:=I.1;have Q:(Xw m).take 8=Xw m:=Zd (by rw[Xc];omega);have U:(Xw m).drop 8=[]:=Zo (by rw[Xc];omega);have P:(Xw a).take 8=Xw a:=Zd (by rw[Xc];omega);have T:(Xw a).drop 8=[]:=Zo (by rw[Xc];omega);have O:(Xw (Xg m a)).take 8=Xw (Xg m a):=Zd (by rw[Xc];omega);have S:(Xw (Xg m a)).drop 8=[]:=Zo (by rw[Xc];omega);have J:=fun(D:HF) (L:IntKind)=>N.idx (h:=D) (k:=L) (sz:=12) n (by simp[XF,q])
 have t:Xe .i64 (.ofNat (i+1))=.ofNat (i+1):=wrap_i64 (by omega);have w:(o.length+1)*128<=lim:=by unfold lim;omega
 have A:o.length+1<=9223372036854775807:=by omega
 have w1:=X0 m;have X:=X0 a;have R:=X0 (Xg m a);apply Exists.intro;rw[Xb];simp(decide:=true)only[Xo,Xr,VR,Vx,reduceIte,Nat.reduceEqDiff,Nat.reduceLeDiff,Nat.reduceAdd,x171_1,c,J,Wj,Xc,M,q,s,Q,P,O,Wb,Wf,d,X4,UC,TQ,Zq,Zm,B,C,t,w,A,R,Wm,VL];rfl
theorem yS {E:Xa}{K:Nat}{c1 c2 c3 c4 s:PL}{m:P'}{a:I'}(q:E.mode=md)(T:Sl s a)(I:a.length<1000000)(J:XD m):∀{rest b:I'},cD E [c1,c2,c3,c4] m rest b->∀(i k v:Nat) (o:I') (G:V'),a.drop i=rest->i+rest.length=a.length->o.length=i->rest.length<k->
  ∃c f e,Xb E K 0 [3,4,8,19,20,21] x171_1 k ⟨[(3,.one (.ptr 0 0 0 0)),(4,.one (.ptr 1 0 0 0)),(8,.one (.own 2 v 0 o.length)),(19,.one (.p s)),(20,LB a.length),(21,LB i)],NX c1 c2 c3 c4::HA m::SJ v o::G⟩=
   some (.exit 0,⟨c,NX c1 c2 c3 c4::HA m::SJ e (o++b)::f⟩)/\Xh c 8=some (.one (.own 2 e 0 (o++b).length)):=by
 intro rest b h;induction h with
 |nil=>
  intro i k v o G w j L A;obtain⟨k,rfl⟩:∃r,k=r+1:=⟨k-1,by omega⟩;have n:¬i<a.length:=by simp at j;omega
  have :∃c,Xb E K 0 [3,4,8,19,20,21] x171_1 (k+1) ⟨[(3,.one (.ptr 0 0 0 0)),(4,.one (.ptr 1 0 0 0)),(8,.one (.own 2 v 0 o.length)),(19,.one (.p s)),(20,LB a.length),(21,LB i)],NX c1 c2 c3 c4::HA m::SJ v o::G⟩=
   some (.exit 0,⟨c,NX c1 c2 c3 c4::HA m::SJ v o::G⟩)/\Xh c 8=some (.one (.own 2 v 0 o.length)):=by
   apply VO
   ·rw[Xb];simp only[Xo,Xr,reduceIte,Nat.reduceEqDiff,x171_1,n];rfl
   ·simp only[Xo,reduceIte,Nat.reduceEqDiff]
  obtain⟨c,g,d⟩:=this;exact⟨c,G,v,by rw[ZE];exact g,by rw[ZE];exact d⟩
 |@cons x y z u P Q R S O U V A M F H h N=>
  intro i k v o G w j L l;obtain⟨k,rfl⟩:∃r,k=r+1:=⟨k-1,by omega⟩;simp only[Zi]at j l;obtain⟨D,C⟩:=Xi w;obtain⟨B,g⟩:=nZ (K:=K) (k:=k) (v:=v) (c1:=c1) (c2:=c2) (c3:=c3) (c4:=c4) (o:=o) q T I (by omega) J A D M F H G;obtain⟨c,f,e,d,t⟩:=N (i+1) k (v+1) (o++[P::Q::R::S::mo (Xg m O)]) B C (by omega) (by simp;omega) (by omega);rw[Zq,ZY]at d t;exact⟨c,f,e,g.trans d,t⟩
theorem q5 {B:Xs}(i:Std B){c:N'}{z:Rat}(l:Ri c z)(G:Sq z)(h0:z≠0){m:P'}(o:XD m){v:PL}{g:Z'}(j:PQ v g)(F:Sz g)(D:∀t∈g,XD (Xg m t.2))(O:g.length<1000000):
  ∃e,Xu B 171 [.agg c,.agg (mo m),.one v] (.X9 [.one (.Xn e),.one (LA 0)])/\X5 e (XG z m g):=by
 obtain⟨k,w,j⟩:=j;have M:=j.length;obtain⟨e,A,C⟩:=iD i l G o j F D;have p:=Nv i l;have I:=yq h0;obtain⟨n,a,d,b,rfl⟩:=l.len;refine⟨e,Xu.of (i.Wa _ _ rfl) ((C.and (p.Xk.and (i.Xk.and (XS.ge (k.length+1))))).mono fun E K ⟨e1,e2,f,N⟩=> ?_),A⟩;obtain⟨L,J,Q,q,r⟩:=yS (K:=K) f w (by omega) o e1 0 K 0 [] [] rfl (by omega) rfl (by omega);rw[ZF]at q r;have H:=o.1;have P:(Xw m).take 8=Xw m:=Zd (by rw[Xc];omega);have x:128*k.length<=lim:=by unfold lim;omega
 have y:k.length<=9223372036854775807:=by omega
 have u:=WV e (Ze _);have s:=fun h=>Ve 5 h e
 simp only[Zr,NX,HA,SJ,pc,ZN]at q r u s;simp only[Xo,Xr,reduceIte,Nat.reduceEqDiff,Nat.reduceLeDiff,Nat.reduceAdd,Zw,x171,w.len,f,X4,e2,I,Wj,Xc,H,x,y,q,r,u,s,ZP,Ze]
end Go.Proofs.YtidginchkjhobaaGreat
