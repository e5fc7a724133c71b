/- Polynomials of the reference with rational coefficients: Times, Scale, Add, Sub, Mul, By. -/
import Derived.Test.YtidginchkjhobaaGreatRDiv
set_option maxHeartbeats 16000000
set_option maxRecDepth 100000
namespace Go.Proofs.YtidginchkjhobaaGreat
open Go.Ev Go.Num
def W9 (c:List PL)(t:Qm):Prop:=∃n a d b,c=.bool n::a::.bool d::b::mo t.2/\RP [.bool n,a,.bool d,b] t.1/\XE t.2
abbrev X4 (es:List (List PL))(ts:List Qm):Prop:=XF W9 es ts
def PQ (l:PL)(ts:List Qm):Prop:=∃es,Sl l es/\X4 es ts
def Sz (ts:List Qm):Prop:=∀t∈ts,Sq t.1
def Eo (ts:List Qm):Prop:=∀t∈ts,XE t.2
theorem Sz.tail {t:Qm}{a:List Qm}(h:Sz (t::a)):Sz a:=fun x b=>h x (Zc _ b)
theorem Sz.head {t:Qm}{a:List Qm}(h:Sz (t::a)):Sq t.1:=h t (Ze ..)
theorem Sz.nil:Sz []:=fun _ h=>by cases h
theorem RP.len {c:List PL}{x:Rat}(h:RP c x):∃n a d b,c=[.bool n,a,.bool d,b]:=by
 obtain⟨n,a,d,b,rfl,-,-⟩:=h;exact⟨n,a,d,b,rfl⟩
theorem X4.qj {f:List (List PL)}{e:List Qm}(h:X4 f e):Eo e:=by
 intro t k;obtain⟨i,j⟩:=ZC.1 k;obtain⟨c,-,g⟩:=h.get i t j;obtain⟨n,a,d,b,-,-,h⟩:=g;exact h
theorem PQ.qj {l:PL}{a:List Qm}(h:PQ l a):Eo a:=by
 obtain⟨b,-,h⟩:=h;exact h.qj
theorem Eo.q8 {a:List Qm}(h:Eo a):Q8 a:=fun t b=>(h t b).1
theorem W9.mk {n:Bool}{a:PL}{d:Bool}{b:PL}{x:Rat}{m:List Nat}(h:RP [.bool n,a,.bool d,b] x)(c:XE m):W9 (.bool n::a::.bool d::b::mo m) (x,m):=⟨n,a,d,b,rfl,h,c⟩
theorem uX {x:Rat}(h:x≠0):Pc (kH x.num) (.ofNat 0)=false:=by
 have :x.num≠0:=fun e=>h (Rat.num_eq_zero.1 e)
 unfold kH;rw[if_neg this];split<;>rfl
theorem EM:Pc (kH (0:Rat).num) (.ofNat 0)=true:=rfl
theorem eG {B:Xs}(i:Std B){c:List PL}{z:Rat}(o:RP c z)(s:Sq z){m:List Nat}(p:XE m):∀{l:List (List PL)} {g:List Qm},X4 l g->Sz g->(∀t∈g,XE (Xg m t.2))->
  ∃e,X4 e (XS z m g)/\X1 B fun E _=>gS E c m l e
 |_,_,.nil,_,_=>⟨[],.nil,X1.of fun _ _=>.nil⟩
 |_,_,.cons (y:=t) k h,hs,ho=>by
  obtain⟨e,A,C⟩:=eG i o s p h hs.tail fun t k=>ho t (Zc _ k)
  obtain⟨n,a,d,b,rfl,D,u⟩:=k;have j:=hs.head;have f:=ho t (Ze ..);have w:=kO i p u f;obtain⟨r,x,q⟩:=Dc i o D s j;obtain⟨I,F,H,G,rfl⟩:=q.len;exact⟨_,.cons (W9.mk q f) A,(C.and (w.Xj.and x.Xj)).mono fun E K ⟨e1,e2,v⟩=>.cons u f e2 v e1⟩
theorem NZ {B:Xs}(i:Std B){c:List PL}{z:Rat}(k:RP c z)(G:Sq z)(h0:z≠0){m:List Nat}(o:XE m){l:PL}{g:List Qm}(j:PQ l g)(F:Sz g)(C:∀t∈g,XE (Xg m t.2))(M:g.length<1000000):
  ∃e,Xx B 48 [.agg c,.agg (mo m),.one l] (.XZ [.one (.Xp e),.one (.int .i64 (.ofNat 0))])/\X4 e (XS z m g):=by
 obtain⟨q,H,j⟩:=j;have A:=j.length;obtain⟨e,w,x⟩:=eG i k G o j F C;have y:=kS i k;obtain⟨n,a,d,b,rfl⟩:=k.len;refine⟨e,Xx.of (i.Wa _ _ rfl) ((x.and (y.Xj.and (i.Xj.and (X1.ge (q.length+1))))).mono fun E K ⟨e1,e2,f,L⟩=> ?_),w⟩;obtain⟨J,I,N,r,s⟩:=xw (K:=K) o.1 f H (by omega) q e e1 0 K 0 [] [] (by simp) (by simp) (by simp) (by omega);have D:=uX h0;simp only[ZF,Zu,pc,ZE]at r s;have p:=o.1;simp only[Xm,Xq,reduceIte,Nat.reduceEqDiff,Nat.reduceLeDiff,Nat.reduceAdd,x48,Wk,Xc,p,f,X5,e2,D,r,s];have v:=VA e (Zh _);have u:=fun h=>VK 5 h e
 simp only[pc]at v u;simp only[Xm,Xq,ZP,v,u,Zh]
theorem u6 {B:Xs}(e:Std B){c:List PL}(h:RP c 0){m:List Nat}(j:XE m)(l:PL):
  Xx B 48 [.agg c,.agg (mo m),.one l] (.XZ [.one .XC,.one (.int .i64 (.ofNat 0))]):=by
 have i:=kS e h;obtain⟨n,a,d,b,rfl⟩:=h.len;refine Xx.of (e.Wa _ _ rfl) ((i.Xj.and e.Xj).mono fun E K ⟨e2,g⟩=> ?_);have k:=EM;have f:=j.1;simp only[Xm,Xq,reduceIte,Nat.reduceEqDiff,Nat.reduceLeDiff,Nat.reduceAdd,x48,Wk,Xc,f,g,X5,e2,k]
theorem nj {B:Xs}(i:Std B){c:List PL}{z:Rat}(k:RP c z)(v:Sq z){l:PL}{j:List Qm}(q:PQ l j)(u:Sz j)(s:j.length<1000000):
  ∃r,Xx B 17 [.agg c,.one l] (.one r)/\PQ r (if z=0 then[]else Uc z j):=by
 have h:=q.qj;by_cases h0:z=0
 ·subst h0;have o:=u6 i k Cq l;obtain⟨n,a,d,b,rfl⟩:=k.len;refine⟨.XC,Xx.of (i.Wa _ _ rfl) ((o.Xj.and i.Xj).mono fun E K ⟨e1,g⟩=> ?_),⟨[],.nil,by rw[if_pos rfl];exact .nil⟩⟩;simp only[zM,mo,Zr,ZE]at e1;simp only[Xm,Xq,reduceIte,Nat.reduceEqDiff,Nat.reduceLeDiff,Nat.reduceAdd,x17,g,X5,e1]
 ·obtain⟨f,o,p⟩:=NZ i k v h0 Cq q u (fun t m=>by rw[cy (h t m).1];exact h t m) s;have e:XS z zM j=Uc z j:=by
   unfold XS Uc;exact List.map_congr_left fun t m=>by rw[cy (h t m).1]
  rw[e]at p;obtain⟨n,a,d,b,rfl⟩:=k.len;refine⟨.Xp f,Xx.of (i.Wa _ _ rfl) ((o.Xj.and i.Xj).mono fun E K ⟨e1,g⟩=> ?_),⟨f,.Xp,by rw[if_neg h0];exact p⟩⟩;simp only[zM,mo,Zr,ZE]at e1;simp only[Xm,Xq,reduceIte,Nat.reduceEqDiff,Nat.reduceLeDiff,Nat.reduceAdd,x17,g,X5,e1]
theorem vu {B:Xs}(I:Std B):∀(n:Nat) {ps qs:List (List PL)} {ts us:List Qm},ts.length+us.length<=n->X4 ps ts->X4 qs us->Sz ts->Sz us->
  ∃a,X4 a (WB ts us)/\X1 B fun E _=>RN E ps qs a:=by
 intro n;induction n with
 |zero=>
  intro ps qs ts us m J C f g;cases J with
  |cons _ _=>simp at m
  |nil=>cases C with
   |cons _ _=>simp at m
   |nil=>exact⟨[],by rw[Wd];exact .nil,X1.of fun _ _=>.nil⟩
 |succ n v=>
  intro ps qs ts us m J C f g;cases J with
  |nil=>cases C with
   |nil=>exact⟨[],by rw[Wd];exact .nil,X1.of fun _ _=>.nil⟩
   |@cons c u qs us o h=>
    obtain⟨a,b,d⟩:=v (by simp at m⊢;omega) (ps:=[]) (ts:=[]) .nil h f g.tail;rw[Wd]at b⊢;have l:=o;obtain⟨x,y,z,w,rfl,-,q⟩:=l;exact⟨_,.cons o b,d.mono fun E K e=>.yb q e⟩
  |@cons c t ps ts s h=>cases C with
   |nil=>
    obtain⟨a,b,d⟩:=v (by simp at m⊢;omega) (qs:=[]) (us:=[]) h .nil f.tail g;rw[WY]at b⊢;have j:=s;obtain⟨x,y,z,w,rfl,-,q⟩:=j;exact⟨_,.cons s b,d.mono fun E K e=>.Cz q e⟩
   |@cons Q u qs us o k=>
    simp only[Zi]at m;have j:=s;have l:=o;obtain⟨x,y,z,w,rfl,M,p⟩:=j;obtain⟨x2,U,V,T,rfl,N,A⟩:=l;have i:=N2 I p.1 A.1;rw[Sw];rcases Vz t.2 u.2 with e|e|e
    ·rw[if_pos e];rw[e]at i;obtain⟨a,b,d⟩:=v (by simp;omega) h (.cons o k) f.tail g;exact⟨_,.cons s b,(d.and i.Xj).mono fun E K ⟨e1,e2⟩=>.CA p A e2 e1⟩
    ·rw[if_neg (by rw[e];simp),if_pos e];rw[e]at i;obtain⟨a,b,d⟩:=v (by simp;omega) (.cons s h) k f g.tail;exact⟨_,.cons o b,(d.and i.Xj).mono fun E K ⟨e1,e2⟩=>.yc p A e2 e1⟩
    ·rw[if_neg (by rw[e];simp),if_neg (by rw[e];simp)];rw[e]at i;obtain⟨a,b,d⟩:=v (by omega) h k f.tail g.tail;obtain⟨r,L,G⟩:=De I M N f.head g.head;have H:=kS I G;obtain⟨S,O,R,P,rfl⟩:=G.len;by_cases h0:t.1+u.1=0
     ·rw[if_pos h0];rw[h0]at H;exact⟨_,b,(d.and (i.Xj.and (L.Xj.and H.Xj))).mono fun E K ⟨e1,e2,D,F⟩=>.zero p A e2 D F e1⟩
     ·rw[if_neg h0];exact⟨_,.cons (W9.mk G p) b,(d.and (i.Xj.and (L.Xj.and H.Xj))).mono fun E K ⟨e1,e2,D,F⟩=>.both p A e2 D F (uX h0) e1⟩
theorem Sf {B:Xs}(e:Std B){lp g:PL}{ts d:List Qm}(b:PQ lp ts)(c:PQ g d)(q:Sz ts)(r:Sz d)(x:ts.length<1000000)(y:d.length<1000000):
  ∃a,Xx B 10 [.one lp,.one g] (.one (.Xp a))/\X4 a (WB ts d):=by
 obtain⟨m,s,b⟩:=b;obtain⟨n,t,c⟩:=c;have lp:=b.length;have g:=c.length;obtain⟨a,o,p⟩:=vu e _ (Zh _) b c q r;refine⟨a,Xx.of (e.Wa _ _ rfl) ((p.and (e.Xj.and (X1.ge (m.length+n.length+1)))).mono fun E K ⟨e1,f,w⟩=> ?_),o⟩;obtain⟨v,u,z,k,l⟩:=DY (K:=K) f s t (by omega) (by omega) m n a e1 0 0 K 0 [] [] (by simp) (by simp) (by simp) (by simp) (by simp) (by omega);simp only[ZF,Zu,pc,ZE]at k l;simp only[Xm,Xq,reduceIte,Nat.reduceEqDiff,Nat.reduceLeDiff,Nat.reduceAdd,x10,k,l];have j:=VA a (Zh _);have i:=fun h=>VK 5 h a
 simp only[pc]at j i;simp only[Xm,Xq,ZP,j,i,Zh]
theorem Sq.neg {x:Rat}(h:Sq x):Sq (-x):=by
 unfold Sq;rw[Rat.neg_num,Rat.neg_den,Int.natAbs_neg];exact h
theorem neg_one_mul (x:Rat): -1*x= -x:=by grind
theorem Sz.neg {b:List Qm}(h:Sz b):Sz (U3 b):=by
 intro t a;simp only[U3,Uc,ZQ]at a;obtain⟨u,c,rfl⟩:=a;simp only[neg_one_mul];exact(h u c).neg
theorem AR:Sq (-1):=by
 have h:(Xd 1).length=1:=Sb.2 (by decide);unfold Sq;show(Xd 1).length<_/\(Xd 1).length<_;omega
theorem bA {B:Xs}(b:Std B){lp lq:PL}{g f:List Qm}(w:PQ lp g)(y:PQ lq f)(v:Sz g)(j:Sz f)(A:g.length<1000000)(o:f.length<1000000):
  ∃a,Xx B 12 [.one lp,.one lq] (.one (.Xp a))/\X4 a (WB g (U3 f)):=by
 obtain⟨c,q,k⟩:=N6 b (x:=.negSucc 0) (by unfold D5;decide);obtain⟨r,s,l⟩:=nj b (z:= -1) k AR y j o;have i:PQ r (U3 f):=by rw[if_neg (by decide)]at l;exact l
 obtain⟨a,t,u⟩:=Sf b w i v j.neg A (by simpa[U3,Uc]using o);refine⟨a,Xx.of (b.Wa _ _ rfl) ((q.Xj.and (s.Xj.and (t.Xj.and b.Xj))).mono fun E K ⟨e1,e2,p,h⟩=> ?_),u⟩;obtain⟨n,m,d,e,rfl⟩:=k.len;simp only[Xm,Xq,reduceIte,Nat.reduceEqDiff,Nat.reduceLeDiff,Nat.reduceAdd,x12,h,X5,e1,e2,p]
def kl (us:List Qm):List Qm->List Qm->Prop
 |_,[]=>True
 |acc,t::ts=>Sz acc/\Sz (XS t.1 t.2 us)/\kl us (WB acc (XS t.1 t.2 us)) ts
theorem vh {B:Xs}(k:Std B){s:PL}{b:List Qm}(L:PQ s b)(I:Sz b)(n:b.length<1000):∀{d:List (List PL)} {c:List Qm},X4 d c->Sz c->(∀t∈c,t.1≠0/\∀u∈b,XE (Xg t.2 u.2))->
  ∀(r:PL) (a:List Qm),PQ r a->kl b a c->a.length+c.length*b.length<1000000->
  ∃e,PQ e (Ry a c b)/\X1 B fun E _=>p6 E s d r e:=by
 intro d c h;induction h with
 |nil=>intro _ _ r a f _ _;exact⟨r,f,X1.of fun _ _=>.nil⟩
 |@cons ch t d c g h M=>
  intro l p r a f J m;obtain⟨x,y,z,w,rfl,T,A⟩:=g;obtain⟨i,j⟩:=p t (Ze ..);obtain⟨Q,R,S⟩:=J;simp only[Zi]at m;rw[ZG,ZZ]at m;obtain⟨o,D,F⟩:=NZ k T l.head i A L I j (by omega);obtain⟨v,G,H⟩:=Sf k f ⟨o,.Xp,F⟩ Q R (by omega) (by simp[XS];omega);have q:=RL _ a (XS t.1 t.2 b) (Zh _);have P:(XS t.1 t.2 b).length=b.length:=by simp[XS]
  obtain⟨e,N,O⟩:=M l.tail (fun t g=>p t (Zc _ g)) (.Xp v) (WB a (XS t.1 t.2 b)) ⟨v,.Xp,H⟩ S (by omega);exact⟨e,N,(O.and (D.Xj.and G.Xj)).mono fun E K ⟨e1,e2,C⟩=>.cons A e2 C e1⟩
theorem vg {B:Xs}(c:Std B){lp s:PL}{ts a:List Qm}(T:PQ lp ts)(G:PQ s a)(D:Sz ts)(F:Sz a)(H:∀t∈ts,t.1≠0/\∀u∈a,XE (Xg t.2 u.2))(l:kl a [] ts)(l1:ts.length<100000)(l2:a.length<1000)(I:ts.length*a.length<900000):
  ∃g,Xx B 38 [.one lp,.one s] (.XZ [.one g,.one (.int .i64 (.ofNat 0))])/\PQ g (Ry [] ts a):=by
 obtain⟨f,j,e⟩:=T;have m:f.length=ts.length:=e.length;cases e with
 |nil=>
  refine⟨.Xp [],Xx.of (c.Wa _ _ rfl) ((c.Xj.and (X1.ge 1)).mono fun E K ⟨d,Q⟩=> ?_),⟨[],.Xp,.nil⟩⟩;obtain⟨b,rfl⟩:∃b,K=b+1:=⟨K-1,by omega⟩;simp only[Xm,Xq,reduceIte,Nat.reduceEqDiff,Nat.reduceLeDiff,Nat.reduceAdd,x38,x38_1,Xb,j.len,Zx]
 |@cons ch t f ts n h=>
  obtain⟨x,y,z,w,rfl,p1,A⟩:=n;obtain⟨q,r⟩:=H t (Ze ..);simp only[Zi]at l1 I m;rw[ZG,ZZ]at I;obtain⟨m1,m2,J⟩:=l;rw[Wd]at J;obtain⟨o,N,O⟩:=NZ c p1 D.head q A G F r (by omega);obtain⟨v,P,C⟩:=Sf c (lp:=.Xp []) (ts:=[]) ⟨[],.Xp,.nil⟩ ⟨o,.Xp,O⟩ Sz.nil m2 (by simp) (by simp[XS];omega);rw[Wd]at C;obtain⟨g,V,W⟩:=vh c G F l2 h D.tail (fun t n=>H t (Zc _ n)) (.Xp v) (XS t.1 t.2 a) ⟨v,.Xp,C⟩ J (by simp[XS];omega);have S:Ry [] (t::ts) a=Ry (XS t.1 t.2 a) ts a:=by simp only[Ry,Wd]
  refine⟨g,Xx.of (c.Wa _ _ rfl) ((W.and (N.Xj.and (P.Xj.and (c.Xj.and (X1.ge (f.length+3)))))).mono fun E K ⟨M,e1,e2,d,Q⟩=> ?_),by rw[S];exact V⟩;obtain⟨b,rfl⟩:∃b,K=b+1:=⟨K-1,by omega⟩;obtain⟨L,q1,q2⟩:=Dp (K:=b+1) d j (by simp;omega) f (.Xp v) g M 1 b [⟨true,0,12,[],false,75⟩] (by simp) (by simp;omega) (by omega);have U:=fun(R:HF) (Y:IntKind)=>j.idx (h:=R) (k:=Y) (i:=0) (sz:=12) rfl (by simp[XI,A.1])
  have X:=A.1;have tk:(Xu t.2).take 8=Xu t.2:=Zd (by rw[Xc];omega);have Z:0<f.length+1:=by omega
  have first :Xb E (b+1) 0 [0,1,6,7] x38_1 (b+1) ⟨[(0,.one (.p lp)),(1,.one (.p s)),(6,.one (.own 0 0 0 0)),(7,.one (.p (.int .i64 (.ofNat 0))))],[⟨false,0,12,[],false,75⟩]⟩=some (.exit 0,⟨L,[⟨true,0,12,[],false,75⟩]⟩):=by
   rw[Xb];simp only[Xm,Xq,Vg,reduceIte,Nat.reduceEqDiff,Nat.reduceLeDiff,Nat.reduceAdd,x38_1,j.len,Z,U,Wk,Xc,XI,X,tk,Wb,Wf,d,X5,e1,e2,w1];exact q1
  simp only[Xm,Xq,Vg,reduceIte,Nat.reduceEqDiff,Nat.reduceLeDiff,Nat.reduceAdd,x38,first,q2]
theorem VP {c:List PL}{es:List (List PL)}(a:∀d∈es,d.length=12)(h:HF):WI 12 h (.p (.Xp (c::es))) 1 none=some (.p (.Xp es),[]):=by
 have f:RH 12 (c::es)[1]? =true:=by
  cases es with
  |nil=>rfl
  |cons d es=>exact pL (a d (by simp))
 have b:Nat.ble 1 (es.length+1)=true:=RK (by omega);have e:Nat.ble (es.length+1) (es.length+1)=true:=RK (Zh _);simp only[WI,Option.getD_none,Zi,b,e,f,YU,cond_true,List.take_succ_cons,Yv,List.drop_succ_cons,Yb]
theorem Sl.Vr {l:PL}{c:List PL}{a:List (List PL)}(h:Sl l (c::a)):l=.Xp (c::a):=by
 rcases h with h|⟨h,_⟩
 ·exact h
 ·cases h
def R4 (c:List PL):Prop:=∃x y z u m,c=x::y::z::u::mo m/\XE m
theorem R4.len {c:List PL}(h:R4 c):c.length=12:=by
 obtain⟨x,y,z,u,m,rfl,h⟩:=h;simp[XI,h.1]
theorem yF (a b:List (List PL)):pc a++b.map (·.map DL.p)=pc (a++b):=by simp[pc]
inductive S9 (E:Xa)(fN:Nat):List (List PL)->List (List PL)->List (List PL)->List (List PL)->List (List PL)->Prop
 |xC {qs:List (List PL)}:S9 E fN [] qs [] [] qs
 |Cs {c:List PL} {ps:List (List PL)}:S9 E fN (c::ps) [] [] (c::ps) []
 |left {x y z u x2 y2 z2 u2:PL} {m n:List Nat} {ps qs os ps' qs':List (List PL)} (hm:XE m) (hn:XE n) (hc:E.pure 151 [.agg (mo m),.agg (mo n)]=some (.one (.int .i64 (.ofNat 1)))) (h:S9 E fN ps ((x2::y2::z2::u2::mo n)::qs) os ps' qs'):
   S9 E fN ((x::y::z::u::mo m)::ps) ((x2::y2::z2::u2::mo n)::qs) ((x::y::z::u::mo m)::os) ps' qs'
 |right {x y z u x2 y2 z2 u2 w1 w2 w3 w4:PL} {m n:List Nat} {ps qs os ps' qs':List (List PL)} (hm:XE m) (hn:XE n) (hc:E.pure 151 [.agg (mo m),.agg (mo n)]=some (.one (.int .i64 (.negSucc 0)))) (hf:E.pure fN [.agg [x2,y2,z2,u2]]=some (.agg [w1,w2,w3,w4])) (h:S9 E fN ((x::y::z::u::mo m)::ps) qs os ps' qs'):
   S9 E fN ((x::y::z::u::mo m)::ps) ((x2::y2::z2::u2::mo n)::qs) ((w1::w2::w3::w4::mo n)::os) ps' qs'
 |zero {x y z u x2 y2 z2 u2 w1 w2 w3 w4 r1 r2 r3 r4:PL} {m n:List Nat} {ps qs os ps' qs':List (List PL)} (hm:XE m) (hn:XE n) (hc:E.pure 151 [.agg (mo m),.agg (mo n)]=some (.one (.int .i64 (.ofNat 0)))) (hf:E.pure fN [.agg [x2,y2,z2,u2]]=some (.agg [w1,w2,w3,w4]))
   (ha:E.pure 157 [.agg [x,y,z,u],.agg [w1,w2,w3,w4]]=some (.agg [r1,r2,r3,r4])) (hs:E.pure 158 [.agg [r1,r2,r3,r4]]=some (.one (.int .i64 (.ofNat 0)))) (h:S9 E fN ps qs os ps' qs'):
   S9 E fN ((x::y::z::u::mo m)::ps) ((x2::y2::z2::u2::mo n)::qs) os ps' qs'
 |both {x y z u x2 y2 z2 u2 w1 w2 w3 w4 r1 r2 r3 r4:PL} {m n:List Nat} {s:Int} {ps qs os ps' qs':List (List PL)} (hm:XE m) (hn:XE n) (hc:E.pure 151 [.agg (mo m),.agg (mo n)]=some (.one (.int .i64 (.ofNat 0)))) (hf:E.pure fN [.agg [x2,y2,z2,u2]]=some (.agg [w1,w2,w3,w4]))
   (ha:E.pure 157 [.agg [x,y,z,u],.agg [w1,w2,w3,w4]]=some (.agg [r1,r2,r3,r4])) (hs:E.pure 158 [.agg [r1,r2,r3,r4]]=some (.one (.int .i64 s))) (h0:Pc s (.ofNat 0)=false) (h:S9 E fN ps qs os ps' qs'):
   S9 E fN ((x::y::z::u::mo m)::ps) ((x2::y2::z2::u2::mo n)::qs) ((r1::r2::r3::r4::mo m)::os) ps' qs'
theorem vT {E:Xa}{K t:Nat}(T:E.mode=md)(a0:md t=.pure)(a1:dH t=t)(a2:∀vs:List DV,rN t vs []=vs):∀(g j L D F:List (List PL)),S9 E t g j L D F->(∀d∈g,d.length=12)->(∀d∈j,d.length=12)->
  ∀(I J:PL) (k v:Nat) (o:List (List PL)) (G:List Xz),Sl I g->Sl J j->o.length+g.length+j.length<2000000->g.length+j.length<k->
  ∃a R Q q r,Xb E K 0 [0,1,2,7] x118_1 k ⟨[(0,.one (.p I)),(1,.one (.p J)),(2,.one (.p (.fn t []))),(7,.one (.own 0 v 0 o.length))],⟨false,v,12,pc o,false,75⟩::G⟩=some (.exit 0,⟨a,⟨false,Q,12,pc (o++L),false,75⟩::R⟩)/\(Xh a 0=some (.one (.p q))/\Xh a 1=some (.one (.p r))/\Xh a 2=some (.one (.p (.fn t [])))/\Xh a 7=some (.one (.own 0 Q 0 (o++L).length)))/\Sl q D/\Sl r F:=by
 have cv:∀(h:HF) (l:List DL),SA E h [.one (.p (.fn t [])),.agg l]=Vk E h t [.agg l]:=fun h l=>by show Vk E h (dH t) (rN t [.agg l] [])=_;rw[a1,a2]
 have hv:∀(l:List DL),XK E .TF [.one (.p (.fn t [])),.agg l]=Ue E t:=fun l=>by show Ue E (dH t)=_;rw[a1]
 have hw:Xk E .TF=false:=rfl;intro g j L D F h;induction h with
 |@xC j=>
  intro b f I J k v o G w A U S;obtain⟨k,rfl⟩:∃N,k=N+1:=⟨k-1,by omega⟩;have :∃a,Xb E K 0 [0,1,2,7] x118_1 (k+1) ⟨[(0,.one (.p I)),(1,.one (.p J)),(2,.one (.p (.fn t []))),(7,.one (.own 0 v 0 o.length))],⟨false,v,12,pc o,false,75⟩::G⟩=some (.exit 0,⟨a,⟨false,v,12,pc o,false,75⟩::G⟩)/\(Xh a 0=some (.one (.p I))/\Xh a 1=some (.one (.p J))/\Xh a 2=some (.one (.p (.fn t [])))/\Xh a 7=some (.one (.own 0 v 0 o.length))):=by
   apply VE
   ·rw[Xb];simp only[Xm,Xq,Vg,reduceIte,Nat.reduceEqDiff,x118_1,w.len,Zx];rfl
   ·simp only[Xm,reduceIte,Nat.reduceEqDiff,and_self]
  obtain⟨a,H,M⟩:=this;exact⟨a,G,v,I,J,by simpa using H,by simpa using M,w,A⟩
 |@Cs c g=>
  intro b f I J k v o G w A U S;obtain⟨k,rfl⟩:∃N,k=N+1:=⟨k-1,by omega⟩;have :∃a,Xb E K 0 [0,1,2,7] x118_1 (k+1) ⟨[(0,.one (.p I)),(1,.one (.p J)),(2,.one (.p (.fn t []))),(7,.one (.own 0 v 0 o.length))],⟨false,v,12,pc o,false,75⟩::G⟩=some (.exit 0,⟨a,⟨false,v,12,pc o,false,75⟩::G⟩)/\(Xh a 0=some (.one (.p I))/\Xh a 1=some (.one (.p J))/\Xh a 2=some (.one (.p (.fn t [])))/\Xh a 7=some (.one (.own 0 v 0 o.length))):=by
   apply VE
   ·rw[Xb];simp only[Xm,Xq,Vg,reduceIte,Nat.reduceEqDiff,x118_1,w.len,A.len,YP,Zx];rfl
   ·simp only[Xm,reduceIte,Nat.reduceEqDiff,and_self]
  obtain⟨a,H,M⟩:=this;exact⟨a,G,v,I,J,by simpa using H,by simpa using M,w,A⟩
 |@left x y z u x2 W X V m n g j os D F hm hn Z h ih=>
  intro b f I J k v o G w A U S;obtain⟨k,rfl⟩:∃N,k=N+1:=⟨k-1,by omega⟩;simp only[Zi]at U S;obtain rfl:=Sl.Vr w;obtain rfl:=Sl.Vr A;have O:=hm.1;have P:=hn.1;have tm:(Xu m).take 8=Xu m:=Zd (by rw[Xc];omega);have tn:(Xu n).take 8=Xu n:=Zd (by rw[Xc];omega);have ip:=fun(B:HF) (C:IntKind)=>w.idx (h:=B) (k:=C) (i:=0) (sz:=12) rfl (by simp[XI,O])
  have iq:=fun(B:HF) (C:IntKind)=>A.idx (h:=B) (k:=C) (i:=0) (sz:=12) rfl (by simp[XI,P])
  have s1:=VP (c:=x::y::z::u::mo m) (es:=g) fun d e=>b d (Zc _ e)
  have s2:=VP (c:=x2::W::X::V::mo n) (es:=j) fun d e=>f d (Zc _ e)
  have l1:0<g.length+1:=by omega
  have l2:0<j.length+1:=by omega
  have f2:(o.length+1)*128<=lim:=by unfold lim;omega
  have f3:o.length+1<=9223372036854775807:=by omega
  obtain⟨a,R,Q,q,r,H,M,Y⟩:=ih (fun d e=>b d (Zc _ e)) f (.Xp g) (.Xp ((x2::W::X::V::mo n)::j)) k (v+1) (o++[(x::y::z::u::mo m)]) (G++[⟨false,0,12,[.p x::.p y::.p z::.p u::Xu m],false,75⟩]) .Xp .Xp (by simp only[Zk,Zi,Zu];omega) (by first |omega|(simp only[Zi];omega));refine⟨a,R,Q,q,r,?_,by simpa using M,Y⟩;rw[Zq,Z5,Zk,ZR]at H;rw[Xb];simp only[Xm,Xq,Vg,reduceIte,Nat.reduceEqDiff,Nat.reduceLeDiff,Nat.reduceLT,Nat.reduceAdd,x118_1,l1,l2,ip,iq,O,P,tm,tn,f2,f3,s1,Wk,Xc,XI,Wb,Wf,T,X5,Z,Wl,Vp];exact H
 |@right x y z u x2 W X V w1 w2 w3 w4 m n g j os D F hm hn Z hf h ih=>
  intro b f I J k v o G w A U S;obtain⟨k,rfl⟩:∃N,k=N+1:=⟨k-1,by omega⟩;simp only[Zi]at U S;obtain rfl:=Sl.Vr w;obtain rfl:=Sl.Vr A;have O:=hm.1;have P:=hn.1;have tm:(Xu m).take 8=Xu m:=Zd (by rw[Xc];omega);have tn:(Xu n).take 8=Xu n:=Zd (by rw[Xc];omega);have ip:=fun(B:HF) (C:IntKind)=>w.idx (h:=B) (k:=C) (i:=0) (sz:=12) rfl (by simp[XI,O])
  have iq:=fun(B:HF) (C:IntKind)=>A.idx (h:=B) (k:=C) (i:=0) (sz:=12) rfl (by simp[XI,P])
  have s1:=VP (c:=x::y::z::u::mo m) (es:=g) fun d e=>b d (Zc _ e)
  have s2:=VP (c:=x2::W::X::V::mo n) (es:=j) fun d e=>f d (Zc _ e)
  have l1:0<g.length+1:=by omega
  have l2:0<j.length+1:=by omega
  have f2:(o.length+1)*128<=lim:=by unfold lim;omega
  have f3:o.length+1<=9223372036854775807:=by omega
  obtain⟨a,R,Q,q,r,H,M,Y⟩:=ih b (fun d e=>f d (Zc _ e)) (.Xp ((x::y::z::u::mo m)::g)) (.Xp j) k (v+1) (o++[(w1::w2::w3::w4::mo n)]) (G++[⟨false,0,12,[.p w1::.p w2::.p w3::.p w4::Xu n],false,75⟩]) .Xp .Xp (by simp only[Zk,Zi,Zu];omega) (by first |omega|(simp only[Zi];omega));refine⟨a,R,Q,q,r,?_,by simpa using M,Y⟩;rw[Zq,Z5,Zk,ZR]at H;rw[Xb];simp only[Xm,Xq,Vg,reduceIte,Nat.reduceEqDiff,Nat.reduceLeDiff,Nat.reduceLT,Nat.reduceAdd,x118_1,l1,l2,ip,iq,cv,hv,hw,O,P,tm,tn,f2,f3,s2,Wk,Xc,XI,Wb,Wf,T,a0,X5,Z,hf,Wl,Vp];exact H
 |@zero x y z u x2 W X V w1 w2 w3 w4 r1 r2 r3 r4 m n g j os D F hm hn Z hf ha hs h ih=>
  intro b f I J k v o G w A U S;obtain⟨k,rfl⟩:∃N,k=N+1:=⟨k-1,by omega⟩;simp only[Zi]at U S;obtain rfl:=Sl.Vr w;obtain rfl:=Sl.Vr A;have O:=hm.1;have P:=hn.1;have tm:(Xu m).take 8=Xu m:=Zd (by rw[Xc];omega);have tn:(Xu n).take 8=Xu n:=Zd (by rw[Xc];omega);have ip:=fun(B:HF) (C:IntKind)=>w.idx (h:=B) (k:=C) (i:=0) (sz:=12) rfl (by simp[XI,O])
  have iq:=fun(B:HF) (C:IntKind)=>A.idx (h:=B) (k:=C) (i:=0) (sz:=12) rfl (by simp[XI,P])
  have s1:=VP (c:=x::y::z::u::mo m) (es:=g) fun d e=>b d (Zc _ e)
  have s2:=VP (c:=x2::W::X::V::mo n) (es:=j) fun d e=>f d (Zc _ e)
  have l1:0<g.length+1:=by omega
  have l2:0<j.length+1:=by omega
  have f2:(o.length+1)*128<=lim:=by unfold lim;omega
  have f3:o.length+1<=9223372036854775807:=by omega
  obtain⟨a,R,Q,q,r,H,M,Y⟩:=ih (fun d e=>b d (Zc _ e)) (fun d e=>f d (Zc _ e)) (.Xp g) (.Xp j) k v o (G++[⟨false,0,4,[[.p r1,.p r2,.p r3,.p r4]],false,48⟩]) .Xp .Xp (by omega) (by omega);refine⟨a,R,Q,q,r,?_,M,Y⟩;rw[Xb];simp only[Xm,Xq,Vg,reduceIte,Nat.reduceEqDiff,Nat.reduceLeDiff,Nat.reduceAdd,x118_1,l1,l2,ip,iq,cv,hv,hw,O,P,tm,tn,s1,s2,Wk,Xc,XI,Wb,Wf,T,a0,X5,Z,hf,ha,hs];exact H
 |@both x y z u x2 W X V w1 w2 w3 w4 r1 r2 r3 r4 m n s g j os D F hm hn Z hf ha hs h0 h ih=>
  intro b f I J k v o G w A U S;obtain⟨k,rfl⟩:∃N,k=N+1:=⟨k-1,by omega⟩;simp only[Zi]at U S;obtain rfl:=Sl.Vr w;obtain rfl:=Sl.Vr A;have O:=hm.1;have P:=hn.1;have tm:(Xu m).take 8=Xu m:=Zd (by rw[Xc];omega);have tn:(Xu n).take 8=Xu n:=Zd (by rw[Xc];omega);have ip:=fun(B:HF) (C:IntKind)=>w.idx (h:=B) (k:=C) (i:=0) (sz:=12) rfl (by simp[XI,O])
  have iq:=fun(B:HF) (C:IntKind)=>A.idx (h:=B) (k:=C) (i:=0) (sz:=12) rfl (by simp[XI,P])
  have s1:=VP (c:=x::y::z::u::mo m) (es:=g) fun d e=>b d (Zc _ e)
  have s2:=VP (c:=x2::W::X::V::mo n) (es:=j) fun d e=>f d (Zc _ e)
  have l1:0<g.length+1:=by omega
  have l2:0<j.length+1:=by omega
  have f2:(o.length+1)*128<=lim:=by unfold lim;omega
  have f3:o.length+1<=9223372036854775807:=by omega
  obtain⟨a,R,Q,q,r,H,M,Y⟩:=ih (fun d e=>b d (Zc _ e)) (fun d e=>f d (Zc _ e)) (.Xp g) (.Xp j) k (v+1) (o++[(r1::r2::r3::r4::mo m)]) (G++[⟨false,0,4,[[.p r1,.p r2,.p r3,.p r4]],false,48⟩,⟨false,0,12,[.p r1::.p r2::.p r3::.p r4::Xu m],false,75⟩]) .Xp .Xp (by simp only[Zk,Zi,Zu];omega) (by first |omega|(simp only[Zi];omega));refine⟨a,R,Q,q,r,?_,by simpa using M,Y⟩;rw[Zq,Z5,Zk,ZR]at H;rw[Xb];simp only[Xm,Xq,Vg,reduceIte,Nat.reduceEqDiff,Nat.reduceLeDiff,Nat.reduceLT,Nat.reduceAdd,x118_1,l1,l2,ip,iq,cv,hv,hw,O,P,tm,tn,f2,f3,s1,s2,Wk,Xc,XI,Wb,Wf,T,a0,X5,Z,hf,ha,hs,h0,Wl,Vp];exact H
def D0 (E:Xa)(fN:Nat)(c d:List PL):Prop:=∃x y z u w1 w2 w3 w4 m,c=x::y::z::u::mo m/\d=w1::w2::w3::w4::mo m/\XE m/\E.pure fN [.agg [x,y,z,u]]=some (.agg [w1,w2,w3,w4])
theorem cP {E:Xa}{K c:Nat}{H:PL}(r:E.mode=md)(s:md c=.pure)(n:dH c=c)(q:∀P:List DV,rN c P []=P){b a:List (List PL)}(O:Sl H b)(W:b.length<1000000)(f:XF (D0 E c) b a):∀(d i k v:Nat) (o:List (List PL)) (G:List Xz),i+d=b.length->d<k->o.length+d<3000000->
  ∃g A w,Xb E K 0 [2,7,92,93,94] x118_2 k ⟨[(2,.one (.p (.fn c []))),(7,.one (.own 0 v 0 o.length)),(92,.one (.p H)),(93,.one (.p (.int .i64 (.ofNat b.length)))),(94,.one (.p (.int .i64 (.ofNat i))))],⟨false,v,12,pc o,false,75⟩::G⟩=
    some (.exit 3,⟨g,⟨false,w,12,pc (o++a.drop i),false,75⟩::A⟩)/\Xh g 7=some (.one (.own 0 w 0 (o++a.drop i).length))
 |_,_,0,_,_,_,_,h,_=>by omega
 |0,i,k+1,v,o,G,hi,_,_=>by
  obtain rfl:i=b.length:=by omega
  have :∃g,Xb E K 0 [2,7,92,93,94] x118_2 (k+1) ⟨[(2,.one (.p (.fn c []))),(7,.one (.own 0 v 0 o.length)),(92,.one (.p H)),(93,.one (.p (.int .i64 (.ofNat b.length)))),(94,.one (.p (.int .i64 (.ofNat b.length))))],⟨false,v,12,pc o,false,75⟩::G⟩=
    some (.exit 3,⟨g,⟨false,v,12,pc o,false,75⟩::G⟩)/\Xh g 7=some (.one (.own 0 v 0 o.length)):=by
   apply VE
   ·rw[Xb];simp only[Xm,Xq,reduceIte,Nat.reduceEqDiff,x118_2,Zx];rfl
   ·simp only[Xm,reduceIte,Nat.reduceEqDiff]
  obtain⟨g,t,B⟩:=this;have e:a.drop b.length=[]:=Zm (by rw[f.length];omega);exact⟨g,G,v,by rw[e];simpa using t,by rw[e];simpa using B⟩
 |d+1,i,k+1,v,o,G,hi,hk,ho=>by
  have F:i<b.length:=by omega
  have X:=f.length;have j:i<a.length:=by omega
  obtain⟨c0,U,x,y,z,u,w1,I,J,L,m,rfl,C,Y,D⟩:=f.get i _ (Zf j);have M:a.drop i=(w1::I::J::L::mo m)::a.drop (i+1):=by rw[ZV j,C]
  have Q:∀(h:HF) (l:List DL),SA E h [.one (.p (.fn c [])),.agg l]=Vk E h c [.agg l]:=fun h l=>by show Vk E h (dH c) (rN c [.agg l] [])=_;rw[n,q]
  have Z:∀(l:List DL),XK E .TF [.one (.p (.fn c [])),.agg l]=Ue E c:=fun l=>by show Ue E (dH c)=_;rw[n]
  have hw:Xk E .TF=false:=rfl;have N:=Y.1;have tm:(Xu m).take 8=Xu m:=Zd (by rw[Xc];omega);have a0:(Xu m).drop 8=[]:=Zm (by rw[Xc];omega);have ip:=fun(V:HF) (kd:IntKind)=>O.idx (h:=V) (k:=kd) (sz:=12) U (by simp[XI,N])
  have R:Xe .i64 (.ofNat (i+1))=.ofNat (i+1):=wrap_i64 (by omega);have S:(o.length+1)*128<=lim:=by unfold lim;omega
  have T:o.length+1<=9223372036854775807:=by omega
  obtain⟨g,A,w,t,B⟩:=cP r s n q O W f d (i+1) k (v+1) (o++[w1::I::J::L::mo m]) (G++[⟨false,0,12,[.p x::.p y::.p z::.p u::Xu m],false,75⟩,⟨false,0,12,[.p w1::.p I::.p J::.p L::Xu m],false,75⟩]) (by omega) (by omega) (by simp;omega);refine⟨g,A,w,?_,by rw[M];simpa using B⟩;rw[Zq,Z5,Zk,ZR,<-M]at t;rw[Xb];simp only[Xm,Xq,Vg,reduceIte,Nat.reduceEqDiff,Nat.reduceLeDiff,Nat.reduceLT,Nat.reduceAdd,x118_2,F,ip,Q,Z,hw,N,tm,R,S,T,Wk,Xc,r,s,D,Wl,Vp];exact t
def iB (f:Rat->Rat)(ts:List Qm):List Qm:=ts.map fun t=>(f t.1,t.2)
structure As (B:Xs)(fN:Nat)(f:Rat->Rat):Prop where
 md:md fN=.pure
 fF:dH fN=fN
 fA:∀vs:List DV,rN fN vs []=vs
 ret:∀{c:List PL} {y:Rat},RP c y->Sq y->∃d,Xx B fN [.agg c] (.agg d)/\RP d (f y)
 sq:∀{y:Rat},Sq y->Sq (f y)
theorem W9.form {c:List PL}{t:Qm}(h:W9 c t):R4 c:=by
 obtain⟨n,a,d,b,rfl,-,h⟩:=h;exact⟨_,_,_,_,_,rfl,h⟩
theorem X4.ax {b:List (List PL)}{e:List Qm}(h:X4 b e):∀c∈b,R4 c:=by
 induction h with
 |nil=>intro c a;cases a
 |cons h _ d=>
  intro c a;rcases Zj.1 a with rfl|a
  ·exact W9.form h
  ·exact d c a
theorem od {B:Xs}{k:Nat}{f:Rat->Rat}(m:As B k f):∀{p:List (List PL)} {j:List Qm},X4 p j->Sz j->∃g,X4 g (iB f j)/\X1 B fun E _=>XF (D0 E k) p g
 |_,_,.nil,_=>⟨[],.nil,X1.of fun _ _=>.nil⟩
 |_,_,.cons (x:=c) (y:=u) v h,hs=>by
  obtain⟨g,r,s⟩:=od m h hs.tail;have i:=v;obtain⟨n,a,d,b,rfl,q,o⟩:=i;obtain⟨e,t,l⟩:=m.ret q hs.head;obtain⟨C,w,A,z,rfl⟩:=l.len;exact⟨_,.cons (W9.mk l o) r,(s.and t.Xj).mono fun E K ⟨e1,e2⟩=>.cons ⟨_,_,_,_,_,_,_,_,_,rfl,rfl,o,e2⟩ e1⟩
theorem rk {B:Xs}(S:Std B){Q:Nat}{f:Rat->Rat}(T:As B Q f):∀(n:Nat) {l q:List (List PL)} {m s:List Qm},m.length+s.length<=n->X4 l m->X4 q s->Sz m->Sz s->
  ∃d b g a,X4 (d++(b++a)) (WB m (iB f s))/\(X1 B fun E _=>S9 E Q l q d b g)/\(X1 B fun E _=>XF (D0 E Q) g a)/\(∀c∈b,R4 c)/\a.length=g.length/\b.length<=l.length/\g.length<=q.length/\d.length<=l.length+q.length:=by
 intro n;induction n with
 |zero=>
  intro l q m s N U L J A;cases U with
  |cons _ _=>simp at N
  |nil=>cases L with
   |cons _ _=>simp at N
   |nil=>exact⟨[],[],[],[],by rw[Wd];exact .nil,X1.of fun _ _=>.xC,X1.of fun _ _=>.nil,(fun _ h=>by cases h),rfl,Zh _,Zh _,by simp⟩
 |succ n X=>
  intro l q m s N U L J A;cases U with
  |nil=>
   obtain⟨a,j,p⟩:=od T L A;have e1:=j.length;have e2:=L.length;simp only[iB,ZP]at e1;exact⟨[],[],q,a,by rw[Wd];exact j,X1.of fun _ _=>.xC,p,(fun _ h=>by cases h),by omega,Zh _,Zh _,by simp⟩
  |@cons c t l m M h=>cases L with
   |nil=>exact⟨[],c::l,[],[],by rw[show iB f []=[]from rfl,WY];simpa using(XF.cons M h:X4 (c::l) (t::m)),X1.of fun _ _=>.Cs,X1.of fun _ _=>.nil,X4.ax (.cons M h),rfl,Zh _,Zh _,by simp⟩
   |@cons c2 u q s hu k=>
    simp only[Zi]at N⊢;have V:=M;have W:=hu;obtain⟨x,y,z,w,rfl,p1,G⟩:=V;obtain⟨x2,y2,z2,w2,rfl,q1,H⟩:=W;have C:=PT S G.1 H.1;obtain⟨e,Y,Z⟩:=T.ret q1 A.head;obtain⟨n1,a1,d1,b1,rfl⟩:=Z.len;show∃d b g a,X4 (d++(b++a)) (WB (t::m) ((f u.1,u.2)::iB f s))/\_;rw[Sw];rcases Vz t.2 u.2 with e|e|e
    ·rw[if_pos e];rw[e]at C;obtain⟨o,b,g,a,j,p,i,D,v,F,g6,R⟩:=X (by simp;omega) h (.cons hu k) J.tail A;simp only[Zi]at g6 R;exact⟨_,_,_,_,.cons M j,(p.and C.Xj).mono fun E K ⟨e1,e2⟩=>.left G H e2 e1,i,D,v,by omega,by omega,by simp;omega⟩
    ·rw[if_neg (by rw[e];simp),if_pos e];rw[e]at C;obtain⟨o,b,g,a,j,p,i,D,v,F,g6,R⟩:=X (by simp;omega) (.cons M h) k J A.tail;simp only[Zi]at F R;exact⟨_,_,_,_,.cons (W9.mk Z H) j,(p.and (C.Xj.and Y.Xj)).mono fun E K ⟨e1,e2,I⟩=>.right G H e2 I e1,i,D,v,by omega,by omega,by simp;omega⟩
    ·rw[if_neg (by rw[e];simp),if_neg (by rw[e];simp)];rw[e]at C;obtain⟨o,b,g,a,j,p,i,w3,w4,w5,w6,w7⟩:=X (by omega) h k J.tail A.tail;obtain⟨r,D,v⟩:=fj S p1 Z J.head (T.sq A.head);have F:=Oy S v;obtain⟨n',a',d',b',rfl⟩:=v.len;by_cases h0:t.1+f u.1=0
     ·rw[if_pos h0];rw[h0]at F;exact⟨_,_,_,_,j,(p.and (C.Xj.and (D.Xj.and (F.Xj.and Y.Xj)))).mono fun E K ⟨e1,e2,I,O,P⟩=>.zero G H e2 P I O e1,i,w3,w4,by omega,by omega,by omega⟩
     ·rw[if_neg h0];exact⟨_,_,_,_,.cons (W9.mk v G) j,(p.and (C.Xj.and (D.Xj.and (F.Xj.and Y.Xj)))).mono fun E K ⟨e1,e2,I,O,P⟩=>.both G H e2 P I O (uX h0) e1,i,w3,w4,by omega,by omega,by simp;omega⟩
theorem fJ {B:Xs}(y:Std B){G:Nat}{f:Rat->Rat}(b:As B G f){D F:PL}{u v:List Qm}(n:PQ D u)(r:PQ F v)(h1:Sz u)(h2:Sz v)(l1:u.length<400000)(l2:v.length<400000):
  ∃e,Xx B 118 [.one D,.one F,.one (.fn G [])] (.one (.Xp e))/\X4 e (WB u (iB f v)):=by
 obtain⟨j,Q,n⟩:=n;obtain⟨k,R,r⟩:=r;have T:=n.length;have U:=r.length;obtain⟨o,a,t,i,g1,g2,w,g3,g4,g5,g6,g7⟩:=rk y b _ (Zh _) n r h1 h2;refine⟨o++(a++i),Xx.of (y.Wa _ _ rfl) ((g2.and (w.and (y.Xj.and (X1.ge (j.length+k.length+1))))).mono fun E K ⟨e1,A,m,hK⟩=> ?_),g1⟩;obtain⟨T',S,v',a0,a1,L,⟨k2,k3,k4,M⟩,k6,N⟩:=vT (K:=K) m b.md b.fF b.fA j k o a t e1 (fun d l=>R4.len (X4.ax n d l)) (fun d l=>R4.len (X4.ax r d l)) D F K 0 [] [] Q R (by simp;omega) (by omega);simp only[ZF,Zu]at L M;obtain⟨T2,G2,v2,O,P⟩:=cP (K:=K) m b.md b.fF b.fA N (by omega) A t.length 0 K (v'+1) (o++a) S (by omega) (by omega) (by simp;omega);rw[Yb,Zq]at O P;have V:Xe .i64 (.ofNat (j.length+k.length))=.ofNat (j.length+k.length):=wrap_i64 (by omega);have W:128*(j.length+k.length)<=lim:=by unfold lim;omega
 have X:j.length+k.length<=9223372036854775807:=by omega
 have Y:(o.length+a.length)*128<=lim:=by unfold lim;omega
 have Z:o.length+a.length<=9223372036854775807:=by omega
 have f5:(a.map (·.map DL.p)).all (fun c=>decide (c.length=12))=true:=by
  rw[ZW];intro c H;simp only[ZQ]at H;obtain⟨d,l,rfl⟩:=H;simp[R4.len (g3 d l)]
 have f6:(a.map (·.map DL.p)).length=a.length:=by simp
 have J:=VA (o++(a++i)) (Zh _);have I:=fun h=>VK 5 h (o++(a++i))
 have g:=O;rw[Zk]at g;have s:=L;simp only[pc,ZE]at s;simp only[Xm,Xq,reduceIte,Nat.reduceEqDiff,Nat.reduceLeDiff,Nat.reduceAdd,Zt,x118,Q.len,R.len,V,W,X];have z:=fun h=>k6.chunks (h:=h)
 have C:(List.map (fun x=>List.map DL.p x) o).length=o.length:=by simp
 have q:=yF o a;simp only[pc]at q;simp only[Xm,Xq,reduceIte,Nat.reduceEqDiff,Nat.reduceLeDiff,s,k2,k3,k4,M,z,Y,Z,f5,f6,C,q,N.len];simp only[pc]at g J I;rw[g];simp only[Xm,Xq,reduceIte,Nat.reduceEqDiff,beq_self_eq_true,P,J,I,ZP,Zh]
theorem funId {B:Xs}(g:Std B):As B 119 id where
 md:=rfl
 fF:=rfl
 fA:=fun f=>by show(bif Nat.blt _ NA then f++[]else _)=f;rw[ZS];rfl
 ret:=fun{c y} e i=>by
  obtain⟨n,a,d,b,rfl⟩:=e.len;refine⟨_,Xx.of (g.Wa _ _ rfl) (X1.of fun K n=> ?_),e⟩;simp only[Xm,Xq,reduceIte,Nat.reduceEqDiff,Nat.reduceLeDiff,Nat.reduceAdd,x119]
 sq:=fun h=>h
theorem DC {B:Xs}(b:Std B):As B 104 (fun x=> -x) where
 md:=rfl
 fF:=rfl
 fA:=fun a=>by show(bif Nat.blt _ NA then a++[]else _)=a;rw[ZS];rfl
 ret:=fun c d=>fh b c d
 sq:=fun h=>h.neg
theorem BD (a:List Qm):iB id a=a:=by simp[iB]
theorem yQ (a:List Qm):iB (fun x=> -x) a=U3 a:=by
 simp[iB,U3,Uc,Rat.neg_mul,Rat.one_mul]
theorem bJ {B:Xs}(b:Std B){g lq:PL}{c d:List Qm}(k:PQ g c)(l:PQ lq d)(i:Sz c)(j:Sz d)(m:c.length<400000)(n:d.length<400000):
  ∃a,Xx B 68 [.one g,.one lq] (.one (.Xp a))/\X4 a (WB c d):=by
 obtain⟨a,h,f⟩:=fJ b (funId b) k l i j m n;rw[BD]at f;refine⟨_,Xx.of (b.Wa _ _ rfl) ((h.Xj.and b.Xj).mono fun E K ⟨e1,e⟩=> ?_),f⟩;simp only[Xm,Xq,reduceIte,Nat.reduceEqDiff,Nat.reduceLeDiff,Nat.reduceAdd,x68,e,X5,e1]
theorem bF {B:Xs}(b:Std B){lp f:PL}{ts c:List Qm}(j:PQ lp ts)(k:PQ f c)(h:Sz ts)(i:Sz c)(l:ts.length<400000)(m:c.length<400000):
  ∃a,Xx B 67 [.one lp,.one f] (.one (.Xp a))/\X4 a (WB ts (U3 c)):=by
 obtain⟨a,g,e⟩:=fJ b (DC b) j k h i l m;rw[yQ]at e;refine⟨_,Xx.of (b.Wa _ _ rfl) ((g.Xj.and b.Xj).mono fun E K ⟨e1,d⟩=> ?_),e⟩;simp only[Xm,Xq,reduceIte,Nat.reduceEqDiff,Nat.reduceLeDiff,Nat.reduceAdd,x67,d,X5,e1]
theorem pN (c:List PL):R3 (c.map DL.p)=true:=by
 induction c with
 |nil=>rfl
 |cons a c b=>exact b
theorem XT (m:List Nat):R3 (Xu m)=true:=by rw[<-Wk];exact pN _
theorem W5 {a:Type}(G l:List a)(n:Nat):(G++l)[G.length+n]? =l[n]? :=by
 rw[ZL (Nat.le_add_right _ _),Y7]
theorem VD {a:Type}(G l:List a)(n:Nat)(x:a):(G++l).set (G.length+n) x=G++l.set n x:=by
 rw[List.set_append_right _ _ (Nat.le_add_right _ _),Y7]
inductive aP (E:Xa)(c:List PL)(m:List Nat):List (List PL)->List (List PL)->Prop
 |nil:aP E c m [] []
 |cons {x y z u r1 r2 r3 r4:PL} {k:List Nat} {es os:List (List PL)} (hk:XE k) (hs:XE (Xg m k)) (h1:E.pure 130 [.agg (mo m),.agg (mo k)]=some (.XZ [.agg (mo (Xg m k)),.one (.int .i64 (.ofNat 0))]))
   (h2:E.pure 64 [.agg c,.agg [x,y,z,u]]=some (.agg [r1,r2,r3,r4])) (h:aP E c m es os):aP E c m ((x::y::z::u::mo k)::es) ((r1::r2::r3::r4::mo (Xg m k))::os)
theorem fo {B:Xs}(j:Std B){c:List PL}{z:Rat}(p:RP c z)(u:Sq z){m:List Nat}(s:XE m):∀{l:List (List PL)} {i:List Qm},X4 l i->Sz i->(∀t∈i,XE (Xg m t.2))->
  ∃f,X4 f (XS z m i)/\X1 B fun E _=>aP E c m l f
 |_,_,.nil,_,_=>⟨[],.nil,X1.of fun _ _=>.nil⟩
 |_,_,.cons (x:=d) (y:=t) k h,hs,ho=>by
  obtain⟨f,w,A⟩:=fo j p u s h hs.tail (fun t k=>ho t (Zc _ k));have g:=ho t (Ze ..);obtain⟨n,a,d,b,rfl,q,r⟩:=k;obtain⟨e,C,o⟩:=PG j p q u hs.head;have D:=cO j s r g;obtain⟨I,F,H,G,rfl⟩:=o.len;exact⟨_,.cons (W9.mk o g) w,(A.and (C.Xj.and D.Xj)).mono fun E K ⟨e1,e2,v⟩=>.cons r g v e2 e1⟩
abbrev OY (c1 c2 c3 c4:PL):Xz:=⟨false,0,4,[[.p c1,.p c2,.p c3,.p c4]],false,48⟩
abbrev aS (m:List Nat):Xz:=⟨false,0,8,[Xu m],false,73⟩
abbrev T7 (v:Nat)(o:List (List PL)):Xz:=⟨false,v,12,pc o,false,75⟩
theorem kT {E:Xa}{K k v i:Nat}{c1 c2 c3 c4 e x y z u f g j l:PL}{m a:List Nat}{b o:List (List PL)}(d:E.mode=md)(N:Sl e b)(V:b.length<1000000)(W:o.length<1000000)(H:XE m)(F:XE a)(n:b[i]? =some (x::y::z::u::mo a))(I:XE (Xg m a))
  (B:E.pure 130 [.agg (mo m),.agg (mo a)]=some (.XZ [.agg (mo (Xg m a)),.one (.int .i64 (.ofNat 0))])) (C:E.pure 64 [.agg [c1,c2,c3,c4],.agg [x,y,z,u]]=some (.agg [f,g,j,l])) (G:List Xz):
  ∃r,Xb E K 0 [3,4,8,19,20,21] x171_1 (k+1) ⟨[(3,.one (.ptr 0 0 0 0)),(4,.one (.ptr 1 0 0 0)),(8,.one (.own 2 v 0 o.length)),(19,.one (.p e)),(20,.one (.p (.int .i64 (.ofNat b.length)))),(21,.one (.p (.int .i64 (.ofNat i))))],OY c1 c2 c3 c4::aS m::T7 v o::G⟩=
   Xb E K 0 [3,4,8,19,20,21] x171_1 k ⟨[(3,.one (.ptr 0 0 0 0)),(4,.one (.ptr 1 0 0 0)),(8,.one (.own 2 (v+1) 0 (o++[f::g::j::l::mo (Xg m a)]).length)),(19,.one (.p e)),(20,.one (.p (.int .i64 (.ofNat b.length)))),(21,.one (.p (.int .i64 (.ofNat (i+1)))))],OY c1 c2 c3 c4::aS m::T7 (v+1) (o++[f::g::j::l::mo (Xg m a)])::r⟩:=by
 have c:i<b.length:=(Zb.mp n).1;have M:=H.1;have q:=F.1;have s:=I.1;have Q:(Xu m).take 8=Xu m:=Zd (by rw[Xc];omega);have U:(Xu m).drop 8=[]:=Zm (by rw[Xc];omega);have P:(Xu a).take 8=Xu a:=Zd (by rw[Xc];omega);have T:(Xu a).drop 8=[]:=Zm (by rw[Xc];omega);have O:(Xu (Xg m a)).take 8=Xu (Xg m a):=Zd (by rw[Xc];omega);have S:(Xu (Xg m a)).drop 8=[]:=Zm (by rw[Xc];omega);have J:=fun(D:HF) (L:IntKind)=>N.idx (h:=D) (k:=L) (sz:=12) n (by simp[XI,q])
 have t:Xe .i64 (.ofNat (i+1))=.ofNat (i+1):=wrap_i64 (by omega);have w:(o.length+1)*128<=lim:=by unfold lim;omega
 have A:o.length+1<=9223372036854775807:=by omega
 have w1:=XT m;have X:=XT a;have R:=XT (Xg m a);apply Exists.intro;rw[Xb];simp(decide:=true)only[Xm,Xq,Vg,Vm,reduceIte,Nat.reduceEqDiff,Nat.reduceLeDiff,Nat.reduceAdd,x171_1,c,J,Wk,Xc,M,q,s,Q,P,O,Wb,Wf,d,X5,W5,VD,Zq,Zk,B,C,t,w,A,R,Wl,Vp];rfl
theorem vv {E:Xa}{K:Nat}{c1 c2 c3 c4 s:PL}{m:List Nat}{a:List (List PL)}(q:E.mode=md)(T:Sl s a)(I:a.length<1000000)(J:XE m):∀{rest b:List (List PL)},aP E [c1,c2,c3,c4] m rest b->∀(i k v:Nat) (o:List (List PL)) (G:List Xz),a.drop i=rest->i+rest.length=a.length->o.length=i->rest.length<k->
  ∃c f e,Xb E K 0 [3,4,8,19,20,21] x171_1 k ⟨[(3,.one (.ptr 0 0 0 0)),(4,.one (.ptr 1 0 0 0)),(8,.one (.own 2 v 0 o.length)),(19,.one (.p s)),(20,.one (.p (.int .i64 (.ofNat a.length)))),(21,.one (.p (.int .i64 (.ofNat i))))],OY c1 c2 c3 c4::aS m::T7 v o::G⟩=
   some (.exit 0,⟨c,OY c1 c2 c3 c4::aS m::T7 e (o++b)::f⟩)/\Xh c 8=some (.one (.own 2 e 0 (o++b).length)):=by
 intro rest b h;induction h with
 |nil=>
  intro i k v o G w j L A;obtain⟨k,rfl⟩:∃r,k=r+1:=⟨k-1,by omega⟩;have n:¬i<a.length:=by simp at j;omega
  have :∃c,Xb E K 0 [3,4,8,19,20,21] x171_1 (k+1) ⟨[(3,.one (.ptr 0 0 0 0)),(4,.one (.ptr 1 0 0 0)),(8,.one (.own 2 v 0 o.length)),(19,.one (.p s)),(20,.one (.p (.int .i64 (.ofNat a.length)))),(21,.one (.p (.int .i64 (.ofNat i))))],OY c1 c2 c3 c4::aS m::T7 v o::G⟩=
   some (.exit 0,⟨c,OY c1 c2 c3 c4::aS m::T7 v o::G⟩)/\Xh c 8=some (.one (.own 2 v 0 o.length)):=by
   apply VE
   ·rw[Xb];simp only[Xm,Xq,reduceIte,Nat.reduceEqDiff,x171_1,n];rfl
   ·simp only[Xm,reduceIte,Nat.reduceEqDiff]
  obtain⟨c,g,d⟩:=this;exact⟨c,G,v,by rw[ZS];exact g,by rw[ZS];exact d⟩
 |@cons x y z u P Q R S O U V A M F H h N=>
  intro i k v o G w j L l;obtain⟨k,rfl⟩:∃r,k=r+1:=⟨k-1,by omega⟩;simp only[Zi]at j l;obtain⟨D,C⟩:=Xi w;obtain⟨B,g⟩:=kT (K:=K) (k:=k) (v:=v) (c1:=c1) (c2:=c2) (c3:=c3) (c4:=c4) (o:=o) q T I (by omega) J A D M F H G;obtain⟨c,f,e,d,t⟩:=N (i+1) k (v+1) (o++[P::Q::R::S::mo (Xg m O)]) B C (by omega) (by simp;omega) (by omega);rw[Zq,Z5]at d t;exact⟨c,f,e,g.trans d,t⟩
theorem nE {B:Xs}(i:Std B){c:List PL}{z:Rat}(l:RP c z)(G:Sq z)(h0:z≠0){m:List Nat}(o:XE m){v:PL}{g:List Qm}(j:PQ v g)(F:Sz g)(D:∀t∈g,XE (Xg m t.2))(O:g.length<1000000):
  ∃e,Xx B 171 [.agg c,.agg (mo m),.one v] (.XZ [.one (.Xp e),.one (.int .i64 (.ofNat 0))])/\X4 e (XS z m g):=by
 obtain⟨k,w,j⟩:=j;have M:=j.length;obtain⟨e,A,C⟩:=fo i l G o j F D;have p:=Oy i l;have I:=uX h0;obtain⟨n,a,d,b,rfl⟩:=l.len;refine⟨e,Xx.of (i.Wa _ _ rfl) ((C.and (p.Xj.and (i.Xj.and (X1.ge (k.length+1))))).mono fun E K ⟨e1,e2,f,N⟩=> ?_),A⟩;obtain⟨L,J,Q,q,r⟩:=vv (K:=K) f w (by omega) o e1 0 K 0 [] [] rfl (by omega) rfl (by omega);rw[ZF]at q r;have H:=o.1;have P:(Xu m).take 8=Xu m:=Zd (by rw[Xc];omega);have x:128*k.length<=lim:=by unfold lim;omega
 have y:k.length<=9223372036854775807:=by omega
 have u:=VA e (Zh _);have s:=fun h=>VK 5 h e
 simp only[Zu,OY,aS,T7,pc,ZE]at q r u s;simp only[Xm,Xq,reduceIte,Nat.reduceEqDiff,Nat.reduceLeDiff,Nat.reduceAdd,Zt,x171,w.len,f,X5,e2,I,Wk,Xc,H,x,y,q,r,u,s,ZP,Zh]
end Go.Proofs.YtidginchkjhobaaGreat
