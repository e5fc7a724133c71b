/- Polynomials of the reference with rational coefficients: Times, Scale, Add, Sub, Mul, By. -/
import Derived.Test.YtefpgecinlekpaaGreatRDivB
set_option maxHeartbeats 16000000
set_option maxRecDepth 100000
namespace Go.Proofs.YtefpgecinlekpaaGreat
open Go.Ev Go.Num
def Vd (c:List PL)(t:Qm):Prop:=∃n a d b,c=.bool n::a::.bool d::b::mo t.2/\RX [.bool n,a,.bool d,b] t.1/\XL t.2
abbrev X2 (es:List (List PL))(ts:List Qm):Prop:=XF Vd es ts
def PQ (l:PL)(ts:List Qm):Prop:=∃es,Sl l es/\X2 es ts
def Sz (ts:List Qm):Prop:=∀t∈ts,Sq t.1
def FY (ts:List Qm):Prop:=∀t∈ts,XL t.2
theorem Sz.tail {t:Qm}{a:List Qm}(h:Sz (t::a)):Sz a:=fun x b=>h x (Zc _ b)
theorem Sz.head {t:Qm}{a:List Qm}(h:Sz (t::a)):Sq t.1:=h t (Ze ..)
theorem Sz.nil:Sz []:=fun _ h=>by cases h
theorem RX.len {c:List PL}{x:Rat}(h:RX c x):∃n a d b,c=[.bool n,a,.bool d,b]:=by
 obtain⟨n,a,d,b,rfl,-,-⟩:=h;exact⟨n,a,d,b,rfl⟩
theorem X2.td {f:List (List PL)}{e:List Qm}(h:X2 f e):FY e:=by
 intro t k;obtain⟨i,j⟩:=ZM.1 k;obtain⟨c,-,g⟩:=h.get i t j;obtain⟨n,a,d,b,-,-,h⟩:=g;exact h
theorem PQ.td {l:PL}{a:List Qm}(h:PQ l a):FY a:=by
 obtain⟨b,-,h⟩:=h;exact h.td
theorem Vd.mk {n:Bool}{a:PL}{d:Bool}{b:PL}{x:Rat}{m:List Nat}(h:RX [.bool n,a,.bool d,b] x)(c:XL m):Vd (.bool n::a::.bool d::b::mo m) (x,m):=⟨n,a,d,b,rfl,h,c⟩
theorem uI {x:Rat}(h:x≠0):OX (eT x.num) (.ofNat 0)=false:=by
 have :x.num≠0:=fun e=>h (Rat.num_eq_zero.1 e)
 unfold eT;rw[if_neg this];split<;>rfl
theorem EN:OX (eT (0:Rat).num) (.ofNat 0)=true:=rfl
theorem eC {B:Xr}(i:Std B){c:List PL}{z:Rat}(o:RX c z)(s:Sq z){m:List Nat}(p:XL m):∀{l:List (List PL)} {g:List Qm},X2 l g->Sz g->(∀t∈g,XL (Xg m t.2))->
  ∃e,X2 e (X3 z m g)/\X0 B fun E _=>gU E c m l e
 |_,_,.nil,_,_=>⟨[],.nil,X0.of fun _ _=>.nil⟩
 |_,_,.cons (y:=t) k h,hs,ho=>by
  obtain⟨e,x,A⟩:=eC i o s p h hs.tail fun t k=>ho t (Zc _ k)
  obtain⟨n,a,d,b,rfl,C,u⟩:=k;have j:=hs.head;have f:=ho t (Ze ..);have v:=kF i p u f;obtain⟨r,w,q⟩:=Dp i o C s j;obtain⟨H,D,G,F,rfl⟩:=q.len;exact⟨_,.cons (Vd.mk q f) x,(A.and (v.Xi.and w.Xi)).mono fun E K ⟨e1,e2,e3⟩=>.cons u f e2 e3 e1⟩
theorem N4 {B:Xr}(i:Std B){c:List PL}{z:Rat}(k:RX c z)(G:Sq z)(h0:z≠0){m:List Nat}(o:XL m){l:PL}{g:List Qm}(j:PQ l g)(F:Sz g)(C:∀t∈g,XL (Xg m t.2))(M:g.length<1000000):
  ∃e,Xs B 77 [.agg c,.agg (mo m),.one l] (.XY [.one (.Xv e),.one (.int .i64 (.ofNat 0))])/\X2 e (X3 z m g):=by
 obtain⟨q,H,j⟩:=j;have A:=j.length;obtain⟨e,w,x⟩:=eC i k G o j F C;have y:=kK i k;obtain⟨n,a,d,b,rfl⟩:=k.len;refine⟨e,Xs.of (i.X6 _ _ rfl) ((x.and (y.Xi.and (i.Xi.and (X0.ge (q.length+1))))).mono fun E K ⟨e1,e2,f,L⟩=> ?_),w⟩;obtain⟨J,I,N,r,s⟩:=wZ (K:=K) o.1 f H (by omega) q e e1 0 K 0 [] [] (by simp) (by simp) (by simp) (by omega);have D:=uI h0;simp only[ZO,Zu,pc,ZT]at r s;have p:=o.1;simp only[Xp,Xq,reduceIte,Nat.reduceEqDiff,Nat.reduceLeDiff,Nat.reduceAdd,x77,XS,Xa,p,f,XW,e2,D,r,s];have v:=Ui e (Zh _);have u:=fun h=>Ux 5 h e
 simp only[pc]at v u;simp only[Xp,Xq,Zy,v,u,Zh]
theorem uQ {B:Xr}(e:Std B){c:List PL}(h:RX c 0){m:List Nat}(j:XL m)(l:PL):
  Xs B 77 [.agg c,.agg (mo m),.one l] (.XY [.one .XJ,.one (.int .i64 (.ofNat 0))]):=by
 have i:=kK e h;obtain⟨n,a,d,b,rfl⟩:=h.len;refine Xs.of (e.X6 _ _ rfl) ((i.Xi.and e.Xi).mono fun E K ⟨e2,g⟩=> ?_);have k:=EN;have f:=j.1;simp only[Xp,Xq,reduceIte,Nat.reduceEqDiff,Nat.reduceLeDiff,Nat.reduceAdd,x77,XS,Xa,f,g,XW,e2,k]
theorem mZ {B:Xr}(i:Std B){c:List PL}{z:Rat}(k:RX c z)(v:Sq z){l:PL}{j:List Qm}(q:PQ l j)(u:Sz j)(s:j.length<1000000):
  ∃r,Xs B 36 [.agg c,.one l] (.one r)/\PQ r (if z=0 then[]else UI z j):=by
 have h:=q.td;by_cases h0:z=0
 ·subst h0;have o:=uQ i k CB l;obtain⟨n,a,d,b,rfl⟩:=k.len;refine⟨.XJ,Xs.of (i.X6 _ _ rfl) ((o.Xi.and i.Xi).mono fun E K ⟨e1,g⟩=> ?_),⟨[],.nil,by rw[if_pos rfl];exact .nil⟩⟩;simp only[zM,mo,Zw,ZT]at e1;simp only[Xp,Xq,reduceIte,Nat.reduceEqDiff,Nat.reduceLeDiff,Nat.reduceAdd,x36,g,XW,e1]
 ·obtain⟨f,o,p⟩:=N4 i k v h0 CB q u (fun t m=>by rw[ct (h t m).1];exact h t m) s;have e:X3 z zM j=UI z j:=by
   unfold X3 UI;exact List.map_congr_left fun t m=>by rw[ct (h t m).1]
  rw[e]at p;obtain⟨n,a,d,b,rfl⟩:=k.len;refine⟨.Xv f,Xs.of (i.X6 _ _ rfl) ((o.Xi.and i.Xi).mono fun E K ⟨e1,g⟩=> ?_),⟨f,.Xv,by rw[if_neg h0];exact p⟩⟩;simp only[zM,mo,Zw,ZT]at e1;simp only[Xp,Xq,reduceIte,Nat.reduceEqDiff,Nat.reduceLeDiff,Nat.reduceAdd,x36,g,XW,e1]
theorem vb {B:Xr}(H:Std B):∀(n:Nat) {ps qs:List (List PL)} {ts us:List Qm},ts.length+us.length<=n->X2 ps ts->X2 qs us->Sz ts->Sz us->
  ∃a,X2 a (Vu ts us)/\X0 B fun E _=>RV E ps qs a:=by
 intro n;induction n with
 |zero=>
  intro ps qs ts us m I C f g;cases I with
  |cons _ _=>simp at m
  |nil=>cases C with
   |cons _ _=>simp at m
   |nil=>exact⟨[],by rw[Wr];exact .nil,X0.of fun _ _=>.nil⟩
 |succ n v=>
  intro ps qs ts us m I C f g;cases I with
  |nil=>cases C with
   |nil=>exact⟨[],by rw[Wr];exact .nil,X0.of fun _ _=>.nil⟩
   |@cons c u qs us o h=>
    obtain⟨a,b,d⟩:=v (by simp at m⊢;omega) (ps:=[]) (ts:=[]) .nil h f g.tail;rw[Wr]at b⊢;have l:=o;obtain⟨x,y,z,w,rfl,-,q⟩:=l;exact⟨_,.cons o b,d.mono fun E K e=>.xQ q e⟩
  |@cons c t ps ts s h=>cases C with
   |nil=>
    obtain⟨a,b,d⟩:=v (by simp at m⊢;omega) (qs:=[]) (us:=[]) h .nil f.tail g;rw[VD]at b⊢;have j:=s;obtain⟨x,y,z,w,rfl,-,q⟩:=j;exact⟨_,.cons s b,d.mono fun E K e=>.CP q e⟩
   |@cons P u qs us o k=>
    simp only[Zi]at m;have j:=s;have l:=o;obtain⟨x,y,z,w,rfl,L,p⟩:=j;obtain⟨T,U,V,S,rfl,M,A⟩:=l;have i:=Pb H p.1 A.1;rw[SA];rcases WA t.2 u.2 with e|e|e
    ·rw[if_pos e];rw[e]at i;obtain⟨a,b,d⟩:=v (by simp;omega) h (.cons o k) f.tail g;exact⟨_,.cons s b,(d.and i.Xi).mono fun E K ⟨e1,e2⟩=>.CQ p A e2 e1⟩
    ·rw[if_neg (by rw[e];simp),if_pos e];rw[e]at i;obtain⟨a,b,d⟩:=v (by simp;omega) (.cons s h) k f g.tail;exact⟨_,.cons o b,(d.and i.Xi).mono fun E K ⟨e1,e2⟩=>.xR p A e2 e1⟩
    ·rw[if_neg (by rw[e];simp),if_neg (by rw[e];simp)];rw[e]at i;obtain⟨a,b,d⟩:=v (by omega) h k f.tail g.tail;obtain⟨r,J,F⟩:=Dr H L M f.head g.head;have G:=kK H F;obtain⟨R,N,Q,O,rfl⟩:=F.len;by_cases h0:t.1+u.1=0
     ·rw[if_pos h0];rw[h0]at G;exact⟨_,b,(d.and (i.Xi.and (J.Xi.and G.Xi))).mono fun E K ⟨e1,e2,e3,D⟩=>.zero p A e2 e3 D e1⟩
     ·rw[if_neg h0];exact⟨_,.cons (Vd.mk F p) b,(d.and (i.Xi.and (J.Xi.and G.Xi))).mono fun E K ⟨e1,e2,e3,D⟩=>.both p A e2 e3 D (uI h0) e1⟩
theorem Sk {B:Xr}(e:Std B){lp g:PL}{ts d:List Qm}(b:PQ lp ts)(c:PQ g d)(q:Sz ts)(r:Sz d)(x:ts.length<1000000)(y:d.length<1000000):
  ∃a,Xs B 28 [.one lp,.one g] (.one (.Xv a))/\X2 a (Vu ts d):=by
 obtain⟨m,s,b⟩:=b;obtain⟨n,t,c⟩:=c;have lp:=b.length;have g:=c.length;obtain⟨a,o,p⟩:=vb e _ (Zh _) b c q r;refine⟨a,Xs.of (e.X6 _ _ rfl) ((p.and (e.Xi.and (X0.ge (m.length+n.length+1)))).mono fun E K ⟨e1,f,w⟩=> ?_),o⟩;obtain⟨v,u,z,k,l⟩:=Eg (K:=K) f s t (by omega) (by omega) m n a e1 0 0 K 0 [] [] (by simp) (by simp) (by simp) (by simp) (by simp) (by omega);simp only[ZO,Zu,pc,ZT]at k l;simp only[Xp,Xq,reduceIte,Nat.reduceEqDiff,Nat.reduceLeDiff,Nat.reduceAdd,x28,k,l];have j:=Ui a (Zh _);have i:=fun h=>Ux 5 h a
 simp only[pc]at j i;simp only[Xp,Xq,Zy,j,i,Zh]
theorem Sq.neg {x:Rat}(h:Sq x):Sq (-x):=by
 unfold Sq;rw[Rat.neg_num,Rat.neg_den,Int.natAbs_neg];exact h
theorem neg_one_mul (x:Rat): -1*x= -x:=by grind
theorem Sz.neg {b:List Qm}(h:Sz b):Sz (Ri b):=by
 intro t a;simp only[Ri,UI,ZH]at a;obtain⟨u,c,rfl⟩:=a;simp only[neg_one_mul];exact(h u c).neg
theorem AT:Sq (-1):=by
 have h:(Xd 1).length=1:=Sf.2 (by decide);unfold Sq;show(Xd 1).length<_/\(Xd 1).length<_;omega
theorem bC {B:Xr}(b:Std B){lp lq:PL}{g f:List Qm}(v:PQ lp g)(w:PQ lq f)(u:Sz g)(j:Sz f)(y:g.length<1000000)(o:f.length<1000000):
  ∃a,Xs B 43 [.one lp,.one lq] (.one (.Xv a))/\X2 a (Vu g (Ri f)):=by
 obtain⟨c,p,k⟩:=N9 b (x:=.negSucc 0) (by unfold mg;decide);obtain⟨r,q,l⟩:=mZ b (z:= -1) k AT w j o;have i:PQ r (Ri f):=by rw[if_neg (by decide)]at l;exact l
 obtain⟨a,s,t⟩:=Sk b v i u j.neg y (by simpa[Ri,UI]using o);refine⟨a,Xs.of (b.X6 _ _ rfl) ((p.Xi.and (q.Xi.and (s.Xi.and b.Xi))).mono fun E K ⟨e1,e2,e3,h⟩=> ?_),t⟩;obtain⟨n,m,d,e,rfl⟩:=k.len;simp only[Xp,Xq,reduceIte,Nat.reduceEqDiff,Nat.reduceLeDiff,Nat.reduceAdd,x43,h,XW,e1,e2,e3]
def gX (us:List Qm):List Qm->List Qm->Prop
 |_,[]=>True
 |acc,t::ts=>Sz acc/\Sz (X3 t.1 t.2 us)/\gX us (Vu acc (X3 t.1 t.2 us)) ts
theorem uV {B:Xr}(k:Std B){s:PL}{b:List Qm}(J:PQ s b)(H:Sz b)(n:b.length<1000):∀{d:List (List PL)} {c:List Qm},X2 d c->Sz c->(∀t∈c,t.1≠0/\∀u∈b,XL (Xg t.2 u.2))->
  ∀(r:PL) (a:List Qm),PQ r a->gX b a c->a.length+c.length*b.length<1000000->
  ∃e,PQ e (U7 a c b)/\X0 B fun E _=>pJ E s d r e:=by
 intro d c h;induction h with
 |nil=>intro _ _ r a f _ _;exact⟨r,f,X0.of fun _ _=>.nil⟩
 |@cons ch t d c g h L=>
  intro l p r a f I m;obtain⟨x,y,z,w,rfl,S,A⟩:=g;obtain⟨i,j⟩:=p t (Ze ..);obtain⟨P,Q,R⟩:=I;simp only[Zi]at m;rw[ZE,Z0]at m;obtain⟨o,C,D⟩:=N4 k S l.head i A J H j (by omega);obtain⟨v,F,G⟩:=Sk k f ⟨o,.Xv,D⟩ P Q (by omega) (by simp[X3];omega);have q:=RU _ a (X3 t.1 t.2 b) (Zh _);have O:(X3 t.1 t.2 b).length=b.length:=by simp[X3]
  obtain⟨e,M,N⟩:=L l.tail (fun t g=>p t (Zc _ g)) (.Xv v) (Vu a (X3 t.1 t.2 b)) ⟨v,.Xv,G⟩ R (by omega);exact⟨e,M,(N.and (C.Xi.and F.Xi)).mono fun E K ⟨e1,e2,e3⟩=>.cons A e2 e3 e1⟩
theorem je {B:Xr}(c:Std B){lp s:PL}{ts a:List Qm}(T:PQ lp ts)(G:PQ s a)(D:Sz ts)(F:Sz a)(H:∀t∈ts,t.1≠0/\∀u∈a,XL (Xg t.2 u.2))(l:gX a [] ts)(l1:ts.length<100000)(l2:a.length<1000)(I:ts.length*a.length<900000):
  ∃g,Xs B 56 [.one lp,.one s] (.XY [.one g,.one (.int .i64 (.ofNat 0))])/\PQ g (U7 [] ts a):=by
 obtain⟨f,j,e⟩:=T;have m:f.length=ts.length:=e.length;cases e with
 |nil=>
  refine⟨.Xv [],Xs.of (c.X6 _ _ rfl) ((c.Xi.and (X0.ge 1)).mono fun E K ⟨d,Q⟩=> ?_),⟨[],.Xv,.nil⟩⟩;obtain⟨b,rfl⟩:∃b,K=b+1:=⟨K-1,by omega⟩;simp only[Xp,Xq,reduceIte,Nat.reduceEqDiff,Nat.reduceLeDiff,Nat.reduceAdd,x56,x56_1,Xc,j.len,Zv]
 |@cons ch t f ts n h=>
  obtain⟨x,y,z,w,rfl,p1,A⟩:=n;obtain⟨q,r⟩:=H t (Ze ..);simp only[Zi]at l1 I m;rw[ZE,Z0]at I;obtain⟨m1,m2,J⟩:=l;rw[Wr]at J;obtain⟨o,N,O⟩:=N4 c p1 D.head q A G F r (by omega);obtain⟨v,P,C⟩:=Sk c (lp:=.Xv []) (ts:=[]) ⟨[],.Xv,.nil⟩ ⟨o,.Xv,O⟩ Sz.nil m2 (by simp) (by simp[X3];omega);rw[Wr]at C;obtain⟨g,V,W⟩:=uV c G F l2 h D.tail (fun t n=>H t (Zc _ n)) (.Xv v) (X3 t.1 t.2 a) ⟨v,.Xv,C⟩ J (by simp[X3];omega);have S:U7 [] (t::ts) a=U7 (X3 t.1 t.2 a) ts a:=by simp only[U7,Wr]
  refine⟨g,Xs.of (c.X6 _ _ rfl) ((W.and (N.Xi.and (P.Xi.and (c.Xi.and (X0.ge (f.length+3)))))).mono fun E K ⟨M,e1,e2,d,Q⟩=> ?_),by rw[S];exact V⟩;obtain⟨b,rfl⟩:∃b,K=b+1:=⟨K-1,by omega⟩;obtain⟨L,q1,q2⟩:=DD (K:=b+1) d j (by simp;omega) f (.Xv v) g M 1 b [⟨true,0,12,[],false,63⟩] (by simp) (by simp;omega) (by omega);have U:=fun(R:HF) (Y:IntKind)=>j.idx (h:=R) (k:=Y) (i:=0) (sz:=12) rfl (by simp[Xy,A.1])
  have X:=A.1;have tk:(Xm t.2).take 8=Xm t.2:=Zb (by rw[Xa];omega);have Z:0<f.length+1:=by omega
  have first :Xc E (b+1) 0 [0,1,6,7] x56_1 (b+1) ⟨[(0,.one (.p lp)),(1,.one (.p s)),(6,.one (.own 0 0 0 0)),(7,.one (.p (.int .i64 (.ofNat 0))))],[⟨false,0,12,[],false,63⟩]⟩=some (.exit 0,⟨L,[⟨true,0,12,[],false,63⟩]⟩):=by
   rw[Xc];simp only[Xp,Xq,VN,reduceIte,Nat.reduceEqDiff,Nat.reduceLeDiff,Nat.reduceAdd,x56_1,j.len,Z,U,XS,Xa,Xy,X,tk,XK,XN,d,XW,e1,e2,w1];exact q1
  simp only[Xp,Xq,VN,reduceIte,Nat.reduceEqDiff,Nat.reduceLeDiff,Nat.reduceAdd,x56,first,q2]
theorem ya {B:Xr}(d:Std B){g h:PL}{a b:List Qm}(m:PQ g a)(n:PQ h b)(k:Sz a)(l:Sz b)(o:∀t∈a,t.1≠0/\∀u∈b,XL (Xg t.2 u.2))(f:gX b [] a)(p:a.length<100000)(q:b.length<1000)(r:a.length*b.length<900000):
  ∃c,Xs B 42 [.one g,.one h] (.one c)/\PQ c (U7 [] a b):=by
 obtain⟨c,i,j⟩:=je d m n k l o f p q r;refine⟨c,Xs.of (d.X6 _ _ rfl) ((i.Xi.and d.Xi).mono fun E K ⟨e1,e⟩=> ?_),j⟩;simp only[Xp,Xq,reduceIte,Nat.reduceEqDiff,Nat.reduceLeDiff,Nat.reduceAdd,x42,e,XW,e1]
theorem VW {c:List PL}{es:List (List PL)}(a:∀d∈es,d.length=12)(h:HF):WH 12 h (.p (.Xv (c::es))) 1 none=some (.p (.Xv es),[]):=by
 have f:RR 12 (c::es)[1]? =true:=by
  cases es with
  |nil=>rfl
  |cons d es=>exact pz (a d (by simp))
 have b:Nat.ble 1 (es.length+1)=true:=Qf (by omega);have e:Nat.ble (es.length+1) (es.length+1)=true:=Qf (Zh _);simp only[WH,Option.getD_none,Zi,b,e,f,YT,cond_true,List.take_succ_cons,Ym,List.drop_succ_cons,Ye]
theorem Sl.Vp {l:PL}{c:List PL}{a:List (List PL)}(h:Sl l (c::a)):l=.Xv (c::a):=by
 rcases h with h|⟨h,_⟩
 ·exact h
 ·cases h
def Qi (c:List PL):Prop:=∃x y z u m,c=x::y::z::u::mo m/\XL m
theorem Qi.len {c:List PL}(h:Qi c):c.length=12:=by
 obtain⟨x,y,z,u,m,rfl,h⟩:=h;simp[Xy,h.1]
theorem yG (a b:List (List PL)):pc a++b.map (·.map DL.p)=pc (a++b):=by simp[pc]
inductive Rb (E:Xb)(fN:Nat):List (List PL)->List (List PL)->List (List PL)->List (List PL)->List (List PL)->Prop
 |xg {qs:List (List PL)}:Rb E fN [] qs [] [] qs
 |CE {c:List PL} {ps:List (List PL)}:Rb E fN (c::ps) [] [] (c::ps) []
 |left {x y z u x2 y2 z2 u2:PL} {m n:List Nat} {ps qs os ps' qs':List (List PL)} (hm:XL m) (hn:XL n) (hc:E.pure 95 [.agg (mo m),.agg (mo n)]=some (.one (.int .i64 (.ofNat 1)))) (h:Rb E fN ps ((x2::y2::z2::u2::mo n)::qs) os ps' qs'):
   Rb E fN ((x::y::z::u::mo m)::ps) ((x2::y2::z2::u2::mo n)::qs) ((x::y::z::u::mo m)::os) ps' qs'
 |right {x y z u x2 y2 z2 u2 w1 w2 w3 w4:PL} {m n:List Nat} {ps qs os ps' qs':List (List PL)} (hm:XL m) (hn:XL n) (hc:E.pure 95 [.agg (mo m),.agg (mo n)]=some (.one (.int .i64 (.negSucc 0)))) (hf:E.pure fN [.agg [x2,y2,z2,u2]]=some (.agg [w1,w2,w3,w4])) (h:Rb E fN ((x::y::z::u::mo m)::ps) qs os ps' qs'):
   Rb E fN ((x::y::z::u::mo m)::ps) ((x2::y2::z2::u2::mo n)::qs) ((w1::w2::w3::w4::mo n)::os) ps' qs'
 |zero {x y z u x2 y2 z2 u2 w1 w2 w3 w4 r1 r2 r3 r4:PL} {m n:List Nat} {ps qs os ps' qs':List (List PL)} (hm:XL m) (hn:XL n) (hc:E.pure 95 [.agg (mo m),.agg (mo n)]=some (.one (.int .i64 (.ofNat 0)))) (hf:E.pure fN [.agg [x2,y2,z2,u2]]=some (.agg [w1,w2,w3,w4]))
   (ha:E.pure 129 [.agg [x,y,z,u],.agg [w1,w2,w3,w4]]=some (.agg [r1,r2,r3,r4])) (hs:E.pure 132 [.agg [r1,r2,r3,r4]]=some (.one (.int .i64 (.ofNat 0)))) (h:Rb E fN ps qs os ps' qs'):
   Rb E fN ((x::y::z::u::mo m)::ps) ((x2::y2::z2::u2::mo n)::qs) os ps' qs'
 |both {x y z u x2 y2 z2 u2 w1 w2 w3 w4 r1 r2 r3 r4:PL} {m n:List Nat} {s:Int} {ps qs os ps' qs':List (List PL)} (hm:XL m) (hn:XL n) (hc:E.pure 95 [.agg (mo m),.agg (mo n)]=some (.one (.int .i64 (.ofNat 0)))) (hf:E.pure fN [.agg [x2,y2,z2,u2]]=some (.agg [w1,w2,w3,w4]))
   (ha:E.pure 129 [.agg [x,y,z,u],.agg [w1,w2,w3,w4]]=some (.agg [r1,r2,r3,r4])) (hs:E.pure 132 [.agg [r1,r2,r3,r4]]=some (.one (.int .i64 s))) (h0:OX s (.ofNat 0)=false) (h:Rb E fN ps qs os ps' qs'):
   Rb E fN ((x::y::z::u::mo m)::ps) ((x2::y2::z2::u2::mo n)::qs) ((r1::r2::r3::r4::mo m)::os) ps' qs'
theorem vG {E:Xb}{K t:Nat}(T:E.mode=md)(a0:md t=.pure)(a1:dG t=t)(a2:∀vs:List DV,ru t vs []=vs):∀(g j L D F:List (List PL)),Rb E t g j L D F->(∀d∈g,d.length=12)->(∀d∈j,d.length=12)->
  ∀(I J:PL) (k v:Nat) (o:List (List PL)) (G:List Xz),Sl I g->Sl J j->o.length+g.length+j.length<2000000->g.length+j.length<k->
  ∃a R Q q r,Xc E K 0 [0,1,2,7] x92_1 k ⟨[(0,.one (.p I)),(1,.one (.p J)),(2,.one (.p (.fn t []))),(7,.one (.own 0 v 0 o.length))],⟨false,v,12,pc o,false,63⟩::G⟩=some (.exit 0,⟨a,⟨false,Q,12,pc (o++L),false,63⟩::R⟩)/\(Xh a 0=some (.one (.p q))/\Xh a 1=some (.one (.p r))/\Xh a 2=some (.one (.p (.fn t [])))/\Xh a 7=some (.one (.own 0 Q 0 (o++L).length)))/\Sl q D/\Sl r F:=by
 have cv:∀(h:HF) (l:List DL),UY E h [.one (.p (.fn t [])),.agg l]=WO E h t [.agg l]:=fun h l=>by show WO E h (dG t) (ru t [.agg l] [])=_;rw[a1,a2]
 have hv:∀(l:List DL),XG E .U3 [.one (.p (.fn t [])),.agg l]=W1 E t:=fun l=>by show W1 E (dG t)=_;rw[a1]
 have hw:Xk E .U3=false:=rfl;intro g j L D F h;induction h with
 |@xg j=>
  intro b f I J k v o G w A U S;obtain⟨k,rfl⟩:∃N,k=N+1:=⟨k-1,by omega⟩;have :∃a,Xc E K 0 [0,1,2,7] x92_1 (k+1) ⟨[(0,.one (.p I)),(1,.one (.p J)),(2,.one (.p (.fn t []))),(7,.one (.own 0 v 0 o.length))],⟨false,v,12,pc o,false,63⟩::G⟩=some (.exit 0,⟨a,⟨false,v,12,pc o,false,63⟩::G⟩)/\(Xh a 0=some (.one (.p I))/\Xh a 1=some (.one (.p J))/\Xh a 2=some (.one (.p (.fn t [])))/\Xh a 7=some (.one (.own 0 v 0 o.length))):=by
   apply VM
   ·rw[Xc];simp only[Xp,Xq,VN,reduceIte,Nat.reduceEqDiff,x92_1,w.len,Zv];rfl
   ·simp only[Xp,reduceIte,Nat.reduceEqDiff,and_self]
  obtain⟨a,H,M⟩:=this;exact⟨a,G,v,I,J,by simpa using H,by simpa using M,w,A⟩
 |@CE c g=>
  intro b f I J k v o G w A U S;obtain⟨k,rfl⟩:∃N,k=N+1:=⟨k-1,by omega⟩;have :∃a,Xc E K 0 [0,1,2,7] x92_1 (k+1) ⟨[(0,.one (.p I)),(1,.one (.p J)),(2,.one (.p (.fn t []))),(7,.one (.own 0 v 0 o.length))],⟨false,v,12,pc o,false,63⟩::G⟩=some (.exit 0,⟨a,⟨false,v,12,pc o,false,63⟩::G⟩)/\(Xh a 0=some (.one (.p I))/\Xh a 1=some (.one (.p J))/\Xh a 2=some (.one (.p (.fn t [])))/\Xh a 7=some (.one (.own 0 v 0 o.length))):=by
   apply VM
   ·rw[Xc];simp only[Xp,Xq,VN,reduceIte,Nat.reduceEqDiff,x92_1,w.len,A.len,YF,Zv];rfl
   ·simp only[Xp,reduceIte,Nat.reduceEqDiff,and_self]
  obtain⟨a,H,M⟩:=this;exact⟨a,G,v,I,J,by simpa using H,by simpa using M,w,A⟩
 |@left x y z u W X Y V m n g j os D F hm hn hc h ih=>
  intro b f I J k v o G w A U S;obtain⟨k,rfl⟩:∃N,k=N+1:=⟨k-1,by omega⟩;simp only[Zi]at U S;obtain rfl:=Sl.Vp w;obtain rfl:=Sl.Vp A;have O:=hm.1;have P:=hn.1;have tm:(Xm m).take 8=Xm m:=Zb (by rw[Xa];omega);have tn:(Xm n).take 8=Xm n:=Zb (by rw[Xa];omega);have ip:=fun(B:HF) (C:IntKind)=>w.idx (h:=B) (k:=C) (i:=0) (sz:=12) rfl (by simp[Xy,O])
  have iq:=fun(B:HF) (C:IntKind)=>A.idx (h:=B) (k:=C) (i:=0) (sz:=12) rfl (by simp[Xy,P])
  have s1:=VW (c:=x::y::z::u::mo m) (es:=g) fun d e=>b d (Zc _ e)
  have s2:=VW (c:=W::X::Y::V::mo n) (es:=j) fun d e=>f d (Zc _ e)
  have l1:0<g.length+1:=by omega
  have l2:0<j.length+1:=by omega
  have f2:(o.length+1)*128<=lim:=by unfold lim;omega
  have f3:o.length+1<=9223372036854775807:=by omega
  obtain⟨a,R,Q,q,r,H,M,Z⟩:=ih (fun d e=>b d (Zc _ e)) f (.Xv g) (.Xv ((W::X::Y::V::mo n)::j)) k (v+1) (o++[(x::y::z::u::mo m)]) (G++[⟨false,0,12,[.p x::.p y::.p z::.p u::Xm m],false,63⟩]) .Xv .Xv (by simp only[Zl,Zi,Zu];omega) (by first |omega|(simp only[Zi];omega));refine⟨a,R,Q,q,r,?_,by simpa using M,Z⟩;rw[Zq,Z1,Zl,Z2]at H;rw[Xc];simp only[Xp,Xq,VN,reduceIte,Nat.reduceEqDiff,Nat.reduceLeDiff,Nat.reduceLT,Nat.reduceAdd,x92_1,l1,l2,ip,iq,O,P,tm,tn,f2,f3,s1,XS,Xa,Xy,XK,XN,T,XW,hc,Wi,Vn];exact H
 |@right x y z u W X Y V w1 w2 w3 w4 m n g j os D F hm hn hc hf h ih=>
  intro b f I J k v o G w A U S;obtain⟨k,rfl⟩:∃N,k=N+1:=⟨k-1,by omega⟩;simp only[Zi]at U S;obtain rfl:=Sl.Vp w;obtain rfl:=Sl.Vp A;have O:=hm.1;have P:=hn.1;have tm:(Xm m).take 8=Xm m:=Zb (by rw[Xa];omega);have tn:(Xm n).take 8=Xm n:=Zb (by rw[Xa];omega);have ip:=fun(B:HF) (C:IntKind)=>w.idx (h:=B) (k:=C) (i:=0) (sz:=12) rfl (by simp[Xy,O])
  have iq:=fun(B:HF) (C:IntKind)=>A.idx (h:=B) (k:=C) (i:=0) (sz:=12) rfl (by simp[Xy,P])
  have s1:=VW (c:=x::y::z::u::mo m) (es:=g) fun d e=>b d (Zc _ e)
  have s2:=VW (c:=W::X::Y::V::mo n) (es:=j) fun d e=>f d (Zc _ e)
  have l1:0<g.length+1:=by omega
  have l2:0<j.length+1:=by omega
  have f2:(o.length+1)*128<=lim:=by unfold lim;omega
  have f3:o.length+1<=9223372036854775807:=by omega
  obtain⟨a,R,Q,q,r,H,M,Z⟩:=ih b (fun d e=>f d (Zc _ e)) (.Xv ((x::y::z::u::mo m)::g)) (.Xv j) k (v+1) (o++[(w1::w2::w3::w4::mo n)]) (G++[⟨false,0,12,[.p w1::.p w2::.p w3::.p w4::Xm n],false,63⟩]) .Xv .Xv (by simp only[Zl,Zi,Zu];omega) (by first |omega|(simp only[Zi];omega));refine⟨a,R,Q,q,r,?_,by simpa using M,Z⟩;rw[Zq,Z1,Zl,Z2]at H;rw[Xc];simp only[Xp,Xq,VN,reduceIte,Nat.reduceEqDiff,Nat.reduceLeDiff,Nat.reduceLT,Nat.reduceAdd,x92_1,l1,l2,ip,iq,cv,hv,hw,O,P,tm,tn,f2,f3,s2,XS,Xa,Xy,XK,XN,T,a0,XW,hc,hf,Wi,Vn];exact H
 |@zero x y z u W X Y V w1 w2 w3 w4 r1 r2 r3 r4 m n g j os D F hm hn hc hf ha hs h ih=>
  intro b f I J k v o G w A U S;obtain⟨k,rfl⟩:∃N,k=N+1:=⟨k-1,by omega⟩;simp only[Zi]at U S;obtain rfl:=Sl.Vp w;obtain rfl:=Sl.Vp A;have O:=hm.1;have P:=hn.1;have tm:(Xm m).take 8=Xm m:=Zb (by rw[Xa];omega);have tn:(Xm n).take 8=Xm n:=Zb (by rw[Xa];omega);have ip:=fun(B:HF) (C:IntKind)=>w.idx (h:=B) (k:=C) (i:=0) (sz:=12) rfl (by simp[Xy,O])
  have iq:=fun(B:HF) (C:IntKind)=>A.idx (h:=B) (k:=C) (i:=0) (sz:=12) rfl (by simp[Xy,P])
  have s1:=VW (c:=x::y::z::u::mo m) (es:=g) fun d e=>b d (Zc _ e)
  have s2:=VW (c:=W::X::Y::V::mo n) (es:=j) fun d e=>f d (Zc _ e)
  have l1:0<g.length+1:=by omega
  have l2:0<j.length+1:=by omega
  have f2:(o.length+1)*128<=lim:=by unfold lim;omega
  have f3:o.length+1<=9223372036854775807:=by omega
  obtain⟨a,R,Q,q,r,H,M,Z⟩:=ih (fun d e=>b d (Zc _ e)) (fun d e=>f d (Zc _ e)) (.Xv g) (.Xv j) k v o (G++[⟨false,0,4,[[.p r1,.p r2,.p r3,.p r4]],false,61⟩]) .Xv .Xv (by omega) (by omega);refine⟨a,R,Q,q,r,?_,M,Z⟩;rw[Xc];simp only[Xp,Xq,VN,reduceIte,Nat.reduceEqDiff,Nat.reduceLeDiff,Nat.reduceAdd,x92_1,l1,l2,ip,iq,cv,hv,hw,O,P,tm,tn,s1,s2,XS,Xa,Xy,XK,XN,T,a0,XW,hc,hf,ha,hs];exact H
 |@both x y z u W X Y V w1 w2 w3 w4 r1 r2 r3 r4 m n s g j os D F hm hn hc hf ha hs h0 h ih=>
  intro b f I J k v o G w A U S;obtain⟨k,rfl⟩:∃N,k=N+1:=⟨k-1,by omega⟩;simp only[Zi]at U S;obtain rfl:=Sl.Vp w;obtain rfl:=Sl.Vp A;have O:=hm.1;have P:=hn.1;have tm:(Xm m).take 8=Xm m:=Zb (by rw[Xa];omega);have tn:(Xm n).take 8=Xm n:=Zb (by rw[Xa];omega);have ip:=fun(B:HF) (C:IntKind)=>w.idx (h:=B) (k:=C) (i:=0) (sz:=12) rfl (by simp[Xy,O])
  have iq:=fun(B:HF) (C:IntKind)=>A.idx (h:=B) (k:=C) (i:=0) (sz:=12) rfl (by simp[Xy,P])
  have s1:=VW (c:=x::y::z::u::mo m) (es:=g) fun d e=>b d (Zc _ e)
  have s2:=VW (c:=W::X::Y::V::mo n) (es:=j) fun d e=>f d (Zc _ e)
  have l1:0<g.length+1:=by omega
  have l2:0<j.length+1:=by omega
  have f2:(o.length+1)*128<=lim:=by unfold lim;omega
  have f3:o.length+1<=9223372036854775807:=by omega
  obtain⟨a,R,Q,q,r,H,M,Z⟩:=ih (fun d e=>b d (Zc _ e)) (fun d e=>f d (Zc _ e)) (.Xv g) (.Xv j) k (v+1) (o++[(r1::r2::r3::r4::mo m)]) (G++[⟨false,0,4,[[.p r1,.p r2,.p r3,.p r4]],false,61⟩,⟨false,0,12,[.p r1::.p r2::.p r3::.p r4::Xm m],false,63⟩]) .Xv .Xv (by simp only[Zl,Zi,Zu];omega) (by first |omega|(simp only[Zi];omega));refine⟨a,R,Q,q,r,?_,by simpa using M,Z⟩;rw[Zq,Z1,Zl,Z2]at H;rw[Xc];simp only[Xp,Xq,VN,reduceIte,Nat.reduceEqDiff,Nat.reduceLeDiff,Nat.reduceLT,Nat.reduceAdd,x92_1,l1,l2,ip,iq,cv,hv,hw,O,P,tm,tn,f2,f3,s1,s2,XS,Xa,Xy,XK,XN,T,a0,XW,hc,hf,ha,hs,h0,Wi,Vn];exact H
def Eh (E:Xb)(fN:Nat)(c d:List PL):Prop:=∃x y z u w1 w2 w3 w4 m,c=x::y::z::u::mo m/\d=w1::w2::w3::w4::mo m/\XL m/\E.pure fN [.agg [x,y,z,u]]=some (.agg [w1,w2,w3,w4])
theorem cO {E:Xb}{K c:Nat}{H:PL}(r:E.mode=md)(s:md c=.pure)(n:dG c=c)(q:∀P:List DV,ru c P []=P){b a:List (List PL)}(O:Sl H b)(W:b.length<1000000)(f:XF (Eh E c) b a):∀(d i k v:Nat) (o:List (List PL)) (G:List Xz),i+d=b.length->d<k->o.length+d<3000000->
  ∃g A w,Xc E K 0 [2,7,92,93,94] x92_2 k ⟨[(2,.one (.p (.fn c []))),(7,.one (.own 0 v 0 o.length)),(92,.one (.p H)),(93,.one (.p (.int .i64 (.ofNat b.length)))),(94,.one (.p (.int .i64 (.ofNat i))))],⟨false,v,12,pc o,false,63⟩::G⟩=
    some (.exit 3,⟨g,⟨false,w,12,pc (o++a.drop i),false,63⟩::A⟩)/\Xh g 7=some (.one (.own 0 w 0 (o++a.drop i).length))
 |_,_,0,_,_,_,_,h,_=>by omega
 |0,i,k+1,v,o,G,hi,_,_=>by
  obtain rfl:i=b.length:=by omega
  have :∃g,Xc E K 0 [2,7,92,93,94] x92_2 (k+1) ⟨[(2,.one (.p (.fn c []))),(7,.one (.own 0 v 0 o.length)),(92,.one (.p H)),(93,.one (.p (.int .i64 (.ofNat b.length)))),(94,.one (.p (.int .i64 (.ofNat b.length))))],⟨false,v,12,pc o,false,63⟩::G⟩=
    some (.exit 3,⟨g,⟨false,v,12,pc o,false,63⟩::G⟩)/\Xh g 7=some (.one (.own 0 v 0 o.length)):=by
   apply VM
   ·rw[Xc];simp only[Xp,Xq,reduceIte,Nat.reduceEqDiff,x92_2,Zv];rfl
   ·simp only[Xp,reduceIte,Nat.reduceEqDiff]
  obtain⟨g,t,B⟩:=this;have e:a.drop b.length=[]:=Zj (by rw[f.length];omega);exact⟨g,G,v,by rw[e];simpa using t,by rw[e];simpa using B⟩
 |d+1,i,k+1,v,o,G,hi,hk,ho=>by
  have F:i<b.length:=by omega
  have X:=f.length;have j:i<a.length:=by omega
  obtain⟨c0,U,x,y,z,u,w1,I,J,L,m,rfl,C,Y,D⟩:=f.get i _ (Zg j);have M:a.drop i=(w1::I::J::L::mo m)::a.drop (i+1):=by rw[Z7 j,C]
  have Q:∀(h:HF) (l:List DL),UY E h [.one (.p (.fn c [])),.agg l]=WO E h c [.agg l]:=fun h l=>by show WO E h (dG c) (ru c [.agg l] [])=_;rw[n,q]
  have Z:∀(l:List DL),XG E .U3 [.one (.p (.fn c [])),.agg l]=W1 E c:=fun l=>by show W1 E (dG c)=_;rw[n]
  have hw:Xk E .U3=false:=rfl;have N:=Y.1;have tm:(Xm m).take 8=Xm m:=Zb (by rw[Xa];omega);have a0:(Xm m).drop 8=[]:=Zj (by rw[Xa];omega);have ip:=fun(V:HF) (kd:IntKind)=>O.idx (h:=V) (k:=kd) (sz:=12) U (by simp[Xy,N])
  have R:Xe .i64 (.ofNat (i+1))=.ofNat (i+1):=wrap_i64 (by omega);have S:(o.length+1)*128<=lim:=by unfold lim;omega
  have T:o.length+1<=9223372036854775807:=by omega
  obtain⟨g,A,w,t,B⟩:=cO r s n q O W f d (i+1) k (v+1) (o++[w1::I::J::L::mo m]) (G++[⟨false,0,12,[.p x::.p y::.p z::.p u::Xm m],false,63⟩,⟨false,0,12,[.p w1::.p I::.p J::.p L::Xm m],false,63⟩]) (by omega) (by omega) (by simp;omega);refine⟨g,A,w,?_,by rw[M];simpa using B⟩;rw[Zq,Z1,Zl,Z2,<-M]at t;rw[Xc];simp only[Xp,Xq,VN,reduceIte,Nat.reduceEqDiff,Nat.reduceLeDiff,Nat.reduceLT,Nat.reduceAdd,x92_2,F,ip,Q,Z,hw,N,tm,R,S,T,XS,Xa,r,s,D,Wi,Vn];exact t
def iE (f:Rat->Rat)(ts:List Qm):List Qm:=ts.map fun t=>(f t.1,t.2)
structure AD (B:Xr)(fN:Nat)(f:Rat->Rat):Prop where
 md:md fN=.pure
 fF:dG fN=fN
 fA:∀vs:List DV,ru fN vs []=vs
 ret:∀{c:List PL} {y:Rat},RX c y->Sq y->∃d,Xs B fN [.agg c] (.agg d)/\RX d (f y)
 sq:∀{y:Rat},Sq y->Sq (f y)
theorem Vd.form {c:List PL}{t:Qm}(h:Vd c t):Qi c:=by
 obtain⟨n,a,d,b,rfl,-,h⟩:=h;exact⟨_,_,_,_,_,rfl,h⟩
theorem X2.aF {b:List (List PL)}{e:List Qm}(h:X2 b e):∀c∈b,Qi c:=by
 induction h with
 |nil=>intro c a;cases a
 |cons h _ d=>
  intro c a;rcases Zk.1 a with rfl|a
  ·exact Vd.form h
  ·exact d c a
theorem nV {B:Xr}{k:Nat}{f:Rat->Rat}(m:AD B k f):∀{p:List (List PL)} {j:List Qm},X2 p j->Sz j->∃g,X2 g (iE f j)/\X0 B fun E _=>XF (Eh E k) p g
 |_,_,.nil,_=>⟨[],.nil,X0.of fun _ _=>.nil⟩
 |_,_,.cons (x:=c) (y:=u) v h,hs=>by
  obtain⟨g,r,s⟩:=nV m h hs.tail;have i:=v;obtain⟨n,a,d,b,rfl,q,o⟩:=i;obtain⟨e,t,l⟩:=m.ret q hs.head;obtain⟨C,w,A,z,rfl⟩:=l.len;exact⟨_,.cons (Vd.mk l o) r,(s.and t.Xi).mono fun E K ⟨e1,e2⟩=>.cons ⟨_,_,_,_,_,_,_,_,_,rfl,rfl,o,e2⟩ e1⟩
theorem qR {B:Xr}(R:Std B){P:Nat}{f:Rat->Rat}(S:AD B P f):∀(n:Nat) {l q:List (List PL)} {m s:List Qm},m.length+s.length<=n->X2 l m->X2 q s->Sz m->Sz s->
  ∃d b g a,X2 (d++(b++a)) (Vu m (iE f s))/\(X0 B fun E _=>Rb E P l q d b g)/\(X0 B fun E _=>XF (Eh E P) g a)/\(∀c∈b,Qi c)/\a.length=g.length/\b.length<=l.length/\g.length<=q.length/\d.length<=l.length+q.length:=by
 intro n;induction n with
 |zero=>
  intro l q m s M T J I A;cases T with
  |cons _ _=>simp at M
  |nil=>cases J with
   |cons _ _=>simp at M
   |nil=>exact⟨[],[],[],[],by rw[Wr];exact .nil,X0.of fun _ _=>.xg,X0.of fun _ _=>.nil,(fun _ h=>by cases h),rfl,Zh _,Zh _,by simp⟩
 |succ n W=>
  intro l q m s M T J I A;cases T with
  |nil=>
   obtain⟨a,j,p⟩:=nV S J A;have e1:=j.length;have e2:=J.length;simp only[iE,Zy]at e1;exact⟨[],[],q,a,by rw[Wr];exact j,X0.of fun _ _=>.xg,p,(fun _ h=>by cases h),by omega,Zh _,Zh _,by simp⟩
  |@cons c t l m L h=>cases J with
   |nil=>exact⟨[],c::l,[],[],by rw[show iE f []=[]from rfl,VD];simpa using(XF.cons L h:X2 (c::l) (t::m)),X0.of fun _ _=>.CE,X0.of fun _ _=>.nil,X2.aF (.cons L h),rfl,Zh _,Zh _,by simp⟩
   |@cons c2 u q s hu k=>
    simp only[Zi]at M⊢;have U:=L;have V:=hu;obtain⟨x,y,z,w,rfl,p1,G⟩:=U;obtain⟨x2,y2,z2,w2,rfl,q1,H⟩:=V;have C:=Qa R G.1 H.1;obtain⟨e,X,Y⟩:=S.ret q1 A.head;obtain⟨n1,a1,d1,b1,rfl⟩:=Y.len;show∃d b g a,X2 (d++(b++a)) (Vu (t::m) ((f u.1,u.2)::iE f s))/\_;rw[SA];rcases WA t.2 u.2 with e|e|e
    ·rw[if_pos e];rw[e]at C;obtain⟨o,b,g,a,j,p,i,D,v,F,Z,Q⟩:=W (by simp;omega) h (.cons hu k) I.tail A;simp only[Zi]at Z Q;exact⟨_,_,_,_,.cons L j,(p.and C.Xi).mono fun E K ⟨e1,e2⟩=>.left G H e2 e1,i,D,v,by omega,by omega,by simp;omega⟩
    ·rw[if_neg (by rw[e];simp),if_pos e];rw[e]at C;obtain⟨o,b,g,a,j,p,i,D,v,F,Z,Q⟩:=W (by simp;omega) (.cons L h) k I A.tail;simp only[Zi]at F Q;exact⟨_,_,_,_,.cons (Vd.mk Y H) j,(p.and (C.Xi.and X.Xi)).mono fun E K ⟨e1,e2,e3⟩=>.right G H e2 e3 e1,i,D,v,by omega,by omega,by simp;omega⟩
    ·rw[if_neg (by rw[e];simp),if_neg (by rw[e];simp)];rw[e]at C;obtain⟨o,b,g,a,j,p,i,w3,w4,w5,w6,w7⟩:=W (by omega) h k I.tail A.tail;obtain⟨r,D,v⟩:=nw R p1 Y I.head (S.sq A.head);have F:=Rt R v;obtain⟨n',a',d',b',rfl⟩:=v.len;by_cases h0:t.1+f u.1=0
     ·rw[if_pos h0];rw[h0]at F;exact⟨_,_,_,_,j,(p.and (C.Xi.and (D.Xi.and (F.Xi.and X.Xi)))).mono fun E K ⟨e1,e2,e3,N,O⟩=>.zero G H e2 O e3 N e1,i,w3,w4,by omega,by omega,by omega⟩
     ·rw[if_neg h0];exact⟨_,_,_,_,.cons (Vd.mk v G) j,(p.and (C.Xi.and (D.Xi.and (F.Xi.and X.Xi)))).mono fun E K ⟨e1,e2,e3,N,O⟩=>.both G H e2 O e3 N (uI h0) e1,i,w3,w4,by omega,by omega,by simp;omega⟩
theorem fE {B:Xr}(y:Std B){G:Nat}{f:Rat->Rat}(b:AD B G f){D F:PL}{u v:List Qm}(n:PQ D u)(r:PQ F v)(h1:Sz u)(h2:Sz v)(l1:u.length<400000)(l2:v.length<400000):
  ∃e,Xs B 92 [.one D,.one F,.one (.fn G [])] (.one (.Xv e))/\X2 e (Vu u (iE f v)):=by
 obtain⟨j,Q,n⟩:=n;obtain⟨k,R,r⟩:=r;have T:=n.length;have U:=r.length;obtain⟨o,a,t,i,g1,g2,w,g3,g4,g5,g6,g7⟩:=qR y b _ (Zh _) n r h1 h2;refine⟨o++(a++i),Xs.of (y.X6 _ _ rfl) ((g2.and (w.and (y.Xi.and (X0.ge (j.length+k.length+1))))).mono fun E K ⟨e1,A,m,hK⟩=> ?_),g1⟩;obtain⟨T',S,v',a0,a1,L,⟨k2,k3,k4,M⟩,k6,N⟩:=vG (K:=K) m b.md b.fF b.fA j k o a t e1 (fun d l=>Qi.len (X2.aF n d l)) (fun d l=>Qi.len (X2.aF r d l)) D F K 0 [] [] Q R (by simp;omega) (by omega);simp only[ZO,Zu]at L M;obtain⟨T2,G2,v2,O,P⟩:=cO (K:=K) m b.md b.fF b.fA N (by omega) A t.length 0 K (v'+1) (o++a) S (by omega) (by omega) (by simp;omega);rw[Ye,Zq]at O P;have V:Xe .i64 (.ofNat (j.length+k.length))=.ofNat (j.length+k.length):=wrap_i64 (by omega);have W:128*(j.length+k.length)<=lim:=by unfold lim;omega
 have X:j.length+k.length<=9223372036854775807:=by omega
 have Y:(o.length+a.length)*128<=lim:=by unfold lim;omega
 have Z:o.length+a.length<=9223372036854775807:=by omega
 have f5:(a.map (·.map DL.p)).all (fun c=>decide (c.length=12))=true:=by
  rw[ZP];intro c H;simp only[ZH]at H;obtain⟨d,l,rfl⟩:=H;simp[Qi.len (g3 d l)]
 have f6:(a.map (·.map DL.p)).length=a.length:=by simp
 have J:=Ui (o++(a++i)) (Zh _);have I:=fun h=>Ux 5 h (o++(a++i))
 have g:=O;rw[Zl]at g;have s:=L;simp only[pc,ZT]at s;simp only[Xp,Xq,reduceIte,Nat.reduceEqDiff,Nat.reduceLeDiff,Nat.reduceAdd,Zs,x92,Q.len,R.len,V,W,X];have z:=fun h=>k6.chunks (h:=h)
 have C:(List.map (fun x=>List.map DL.p x) o).length=o.length:=by simp
 have q:=yG o a;simp only[pc]at q;simp only[Xp,Xq,reduceIte,Nat.reduceEqDiff,Nat.reduceLeDiff,s,k2,k3,k4,M,z,Y,Z,f5,f6,C,q,N.len];simp only[pc]at g J I;rw[g];simp only[Xp,Xq,reduceIte,Nat.reduceEqDiff,beq_self_eq_true,P,J,I,Zy,Zh]
theorem funId {B:Xr}(g:Std B):AD B 93 id where
 md:=rfl
 fF:=rfl
 fA:=fun f=>by show(bif Nat.blt _ NL then f++[]else _)=f;rw[ZN];rfl
 ret:=fun{c y} e i=>by
  obtain⟨n,a,d,b,rfl⟩:=e.len;refine⟨_,Xs.of (g.X6 _ _ rfl) (X0.of fun K n=> ?_),e⟩;simp only[Xp,Xq,reduceIte,Nat.reduceEqDiff,Nat.reduceLeDiff,Nat.reduceAdd,x93]
 sq:=fun h=>h
theorem DU {B:Xr}(b:Std B):AD B 138 (fun x=> -x) where
 md:=rfl
 fF:=rfl
 fA:=fun a=>by show(bif Nat.blt _ NL then a++[]else _)=a;rw[ZN];rfl
 ret:=fun c d=>nu b c d
 sq:=fun h=>h.neg
theorem BJ (a:List Qm):iE id a=a:=by simp[iE]
theorem yV (a:List Qm):iE (fun x=> -x) a=Ri a:=by
 simp[iE,Ri,UI,Rat.neg_mul,Rat.one_mul]
theorem vp {B:Xr}(b:Std B){g lq:PL}{c d:List Qm}(k:PQ g c)(l:PQ lq d)(i:Sz c)(j:Sz d)(m:c.length<400000)(n:d.length<400000):
  ∃a,Xs B 55 [.one g,.one lq] (.one (.Xv a))/\X2 a (Vu c d):=by
 obtain⟨a,h,f⟩:=fE b (funId b) k l i j m n;rw[BJ]at f;refine⟨_,Xs.of (b.X6 _ _ rfl) ((h.Xi.and b.Xi).mono fun E K ⟨e1,e⟩=> ?_),f⟩;simp only[Xp,Xq,reduceIte,Nat.reduceEqDiff,Nat.reduceLeDiff,Nat.reduceAdd,x55,e,XW,e1]
theorem vd {B:Xr}(b:Std B){g h:PL}{c d:List Qm}(l:PQ g c)(m:PQ h d)(j:Sz c)(k:Sz d)(n:c.length<400000)(o:d.length<400000):
  ∃a,Xs B 102 [.one g,.one h] (.one (.Xv a))/\X2 a (Vu c (Ri d)):=by
 obtain⟨a,i,f⟩:=fE b (DU b) l m j k n o;rw[yV]at f;refine⟨_,Xs.of (b.X6 _ _ rfl) ((i.Xi.and b.Xi).mono fun E K ⟨e1,e⟩=> ?_),f⟩;simp only[Xp,Xq,reduceIte,Nat.reduceEqDiff,Nat.reduceLeDiff,Nat.reduceAdd,x102,e,XW,e1]
theorem Oz (c:List PL):Qh (c.map DL.p)=true:=by
 induction c with
 |nil=>rfl
 |cons a c b=>exact b
theorem Xo (m:List Nat):Qh (Xm m)=true:=by rw[<-XS];exact Oz _
theorem Vh {a:Type}(G l:List a)(n:Nat):(G++l)[G.length+n]? =l[n]? :=by
 rw[ZI (Nat.le_add_right _ _),YD]
theorem V6 {a:Type}(G l:List a)(n:Nat)(x:a):(G++l).set (G.length+n) x=G++l.set n x:=by
 rw[List.set_append_right _ _ (Nat.le_add_right _ _),YD]
inductive aV (E:Xb)(c:List PL)(m:List Nat):List (List PL)->List (List PL)->Prop
 |nil:aV E c m [] []
 |cons {x y z u r1 r2 r3 r4:PL} {k:List Nat} {es os:List (List PL)} (hk:XL k) (hs:XL (Xg m k)) (h1:E.pure 59 [.agg (mo m),.agg (mo k)]=some (.XY [.agg (mo (Xg m k)),.one (.int .i64 (.ofNat 0))]))
   (h2:E.pure 90 [.agg c,.agg [x,y,z,u]]=some (.agg [r1,r2,r3,r4])) (h:aV E c m es os):aV E c m ((x::y::z::u::mo k)::es) ((r1::r2::r3::r4::mo (Xg m k))::os)
theorem fh {B:Xr}(j:Std B){c:List PL}{z:Rat}(p:RX c z)(u:Sq z){m:List Nat}(s:XL m):∀{l:List (List PL)} {i:List Qm},X2 l i->Sz i->(∀t∈i,XL (Xg m t.2))->
  ∃f,X2 f (X3 z m i)/\X0 B fun E _=>aV E c m l f
 |_,_,.nil,_,_=>⟨[],.nil,X0.of fun _ _=>.nil⟩
 |_,_,.cons (x:=d) (y:=t) k h,hs,ho=>by
  obtain⟨f,v,w⟩:=fh j p u s h hs.tail (fun t k=>ho t (Zc _ k));have g:=ho t (Ze ..);obtain⟨n,a,d,b,rfl,q,r⟩:=k;obtain⟨e,A,o⟩:=ff j p q u hs.head;have C:=P6 j s r g;obtain⟨H,D,G,F,rfl⟩:=o.len;exact⟨_,.cons (Vd.mk o g) v,(w.and (A.Xi.and C.Xi)).mono fun E K ⟨e1,e2,e3⟩=>.cons r g e3 e2 e1⟩
abbrev O8 (c1 c2 c3 c4:PL):Xz:=⟨false,0,4,[[.p c1,.p c2,.p c3,.p c4]],false,61⟩
abbrev DE (m:List Nat):Xz:=⟨false,0,8,[Xm m],false,51⟩
abbrev T8 (v:Nat)(o:List (List PL)):Xz:=⟨false,v,12,pc o,false,63⟩
theorem kM {E:Xb}{K k v i:Nat}{c1 c2 c3 c4 e x y z u f g j l:PL}{m a:List Nat}{b o:List (List PL)}(d:E.mode=md)(N:Sl e b)(V:b.length<1000000)(W:o.length<1000000)(H:XL m)(F:XL a)(n:b[i]? =some (x::y::z::u::mo a))(I:XL (Xg m a))
  (B:E.pure 59 [.agg (mo m),.agg (mo a)]=some (.XY [.agg (mo (Xg m a)),.one (.int .i64 (.ofNat 0))])) (C:E.pure 90 [.agg [c1,c2,c3,c4],.agg [x,y,z,u]]=some (.agg [f,g,j,l])) (G:List Xz):
  ∃r,Xc E K 0 [3,4,8,19,20,21] x137_1 (k+1) ⟨[(3,.one (.ptr 0 0 0 0)),(4,.one (.ptr 1 0 0 0)),(8,.one (.own 2 v 0 o.length)),(19,.one (.p e)),(20,.one (.p (.int .i64 (.ofNat b.length)))),(21,.one (.p (.int .i64 (.ofNat i))))],O8 c1 c2 c3 c4::DE m::T8 v o::G⟩=
   Xc E K 0 [3,4,8,19,20,21] x137_1 k ⟨[(3,.one (.ptr 0 0 0 0)),(4,.one (.ptr 1 0 0 0)),(8,.one (.own 2 (v+1) 0 (o++[f::g::j::l::mo (Xg m a)]).length)),(19,.one (.p e)),(20,.one (.p (.int .i64 (.ofNat b.length)))),(21,.one (.p (.int .i64 (.ofNat (i+1)))))],O8 c1 c2 c3 c4::DE m::T8 (v+1) (o++[f::g::j::l::mo (Xg m a)])::r⟩:=by
 have c:i<b.length:=(Zd.mp n).1;have M:=H.1;have q:=F.1;have s:=I.1;have Q:(Xm m).take 8=Xm m:=Zb (by rw[Xa];omega);have U:(Xm m).drop 8=[]:=Zj (by rw[Xa];omega);have P:(Xm a).take 8=Xm a:=Zb (by rw[Xa];omega);have T:(Xm a).drop 8=[]:=Zj (by rw[Xa];omega);have O:(Xm (Xg m a)).take 8=Xm (Xg m a):=Zb (by rw[Xa];omega);have S:(Xm (Xg m a)).drop 8=[]:=Zj (by rw[Xa];omega);have J:=fun(D:HF) (L:IntKind)=>N.idx (h:=D) (k:=L) (sz:=12) n (by simp[Xy,q])
 have t:Xe .i64 (.ofNat (i+1))=.ofNat (i+1):=wrap_i64 (by omega);have w:(o.length+1)*128<=lim:=by unfold lim;omega
 have A:o.length+1<=9223372036854775807:=by omega
 have w1:=Xo m;have X:=Xo a;have R:=Xo (Xg m a);apply Exists.intro;rw[Xc];simp(decide:=true)only[Xp,Xq,VN,WR,reduceIte,Nat.reduceEqDiff,Nat.reduceLeDiff,Nat.reduceAdd,x137_1,c,J,XS,Xa,M,q,s,Q,P,O,XK,XN,d,XW,Vh,V6,Zq,Zl,B,C,t,w,A,R,Wi,Vn];rfl
theorem vc {E:Xb}{K:Nat}{c1 c2 c3 c4 s:PL}{m:List Nat}{a:List (List PL)}(q:E.mode=md)(T:Sl s a)(I:a.length<1000000)(J:XL m):∀{rest b:List (List PL)},aV E [c1,c2,c3,c4] m rest b->∀(i k v:Nat) (o:List (List PL)) (G:List Xz),a.drop i=rest->i+rest.length=a.length->o.length=i->rest.length<k->
  ∃c f e,Xc E K 0 [3,4,8,19,20,21] x137_1 k ⟨[(3,.one (.ptr 0 0 0 0)),(4,.one (.ptr 1 0 0 0)),(8,.one (.own 2 v 0 o.length)),(19,.one (.p s)),(20,.one (.p (.int .i64 (.ofNat a.length)))),(21,.one (.p (.int .i64 (.ofNat i))))],O8 c1 c2 c3 c4::DE m::T8 v o::G⟩=
   some (.exit 0,⟨c,O8 c1 c2 c3 c4::DE m::T8 e (o++b)::f⟩)/\Xh c 8=some (.one (.own 2 e 0 (o++b).length)):=by
 intro rest b h;induction h with
 |nil=>
  intro i k v o G w j L A;obtain⟨k,rfl⟩:∃r,k=r+1:=⟨k-1,by omega⟩;have n:¬i<a.length:=by simp at j;omega
  have :∃c,Xc E K 0 [3,4,8,19,20,21] x137_1 (k+1) ⟨[(3,.one (.ptr 0 0 0 0)),(4,.one (.ptr 1 0 0 0)),(8,.one (.own 2 v 0 o.length)),(19,.one (.p s)),(20,.one (.p (.int .i64 (.ofNat a.length)))),(21,.one (.p (.int .i64 (.ofNat i))))],O8 c1 c2 c3 c4::DE m::T8 v o::G⟩=
   some (.exit 0,⟨c,O8 c1 c2 c3 c4::DE m::T8 v o::G⟩)/\Xh c 8=some (.one (.own 2 v 0 o.length)):=by
   apply VM
   ·rw[Xc];simp only[Xp,Xq,reduceIte,Nat.reduceEqDiff,x137_1,n];rfl
   ·simp only[Xp,reduceIte,Nat.reduceEqDiff]
  obtain⟨c,g,d⟩:=this;exact⟨c,G,v,by rw[ZN];exact g,by rw[ZN];exact d⟩
 |@cons x y z u P Q R S O U V A M F H h N=>
  intro i k v o G w j L l;obtain⟨k,rfl⟩:∃r,k=r+1:=⟨k-1,by omega⟩;simp only[Zi]at j l;obtain⟨D,C⟩:=Xf w;obtain⟨B,g⟩:=kM (K:=K) (k:=k) (v:=v) (c1:=c1) (c2:=c2) (c3:=c3) (c4:=c4) (o:=o) q T I (by omega) J A D M F H G;obtain⟨c,f,e,d,t⟩:=N (i+1) k (v+1) (o++[P::Q::R::S::mo (Xg m O)]) B C (by omega) (by simp;omega) (by omega);rw[Zq,Z1]at d t;exact⟨c,f,e,g.trans d,t⟩
theorem nA {B:Xr}(i:Std B){c:List PL}{z:Rat}(l:RX c z)(G:Sq z)(h0:z≠0){m:List Nat}(o:XL m){v:PL}{g:List Qm}(j:PQ v g)(F:Sz g)(D:∀t∈g,XL (Xg m t.2))(O:g.length<1000000):
  ∃e,Xs B 137 [.agg c,.agg (mo m),.one v] (.XY [.one (.Xv e),.one (.int .i64 (.ofNat 0))])/\X2 e (X3 z m g):=by
 obtain⟨k,w,j⟩:=j;have M:=j.length;obtain⟨e,A,C⟩:=fh i l G o j F D;have p:=Rt i l;have I:=uI h0;obtain⟨n,a,d,b,rfl⟩:=l.len;refine⟨e,Xs.of (i.X6 _ _ rfl) ((C.and (p.Xi.and (i.Xi.and (X0.ge (k.length+1))))).mono fun E K ⟨e1,e2,f,N⟩=> ?_),A⟩;obtain⟨L,J,Q,q,r⟩:=vc (K:=K) f w (by omega) o e1 0 K 0 [] [] rfl (by omega) rfl (by omega);rw[ZO]at q r;have H:=o.1;have P:(Xm m).take 8=Xm m:=Zb (by rw[Xa];omega);have x:128*k.length<=lim:=by unfold lim;omega
 have y:k.length<=9223372036854775807:=by omega
 have u:=Ui e (Zh _);have s:=fun h=>Ux 5 h e
 simp only[Zu,O8,DE,T8,pc,ZT]at q r u s;simp only[Xp,Xq,reduceIte,Nat.reduceEqDiff,Nat.reduceLeDiff,Nat.reduceAdd,Zs,x137,w.len,f,XW,e2,I,XS,Xa,H,x,y,q,r,u,s,Zy,Zh]
end Go.Proofs.YtefpgecinlekpaaGreat
