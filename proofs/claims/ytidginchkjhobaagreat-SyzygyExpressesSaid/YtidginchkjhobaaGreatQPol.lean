/- Polynomials of the reference with rational coefficients: Times, Scale, Add, Sub, Mul, By. -/
import Derived.Test.YtidginchkjhobaaGreatRDiv
set_option maxHeartbeats 16000000
set_option maxRecDepth 100000
namespace Go.Ev
open Go.Proofs.YtidginchkjhobaaGreat
def Vn (c:N')(t:Qm):Prop:=∃n a d b,c=.bool n::a::.bool d::b::mo t.2/\Rw [.bool n,a,.bool d,b] t.1/\XA t.2
abbrev X6 (es:Z')(ts:I'):Prop:=XE Vn es ts
def PQ (l:PL)(ts:I'):Prop:=∃es,Sl l es/\X6 es ts
def Sz (ts:I'):Prop:=∀t∈ts,Sq t.1
def KK (ts:I'):Prop:=∀t∈ts,XA t.2
theorem Sz.tail {t:Qm}{a:I'}(h:Sz (t::a)):Sz a:=fun x b=>h x (Za _ b)
theorem Sz.head {t:Qm}{a:I'}(h:Sz (t::a)):Sq t.1:=h t (Zc ..)
theorem Sz.nil:Sz []:=fun _ h=>by cases h
theorem Rw.len {c:N'}{x:Rat}(h:Rw c x):∃n a d b,c=[.bool n,a,.bool d,b]:=by
 obtain⟨n,a,d,b,rfl,-,-⟩:=h;exact⟨n,a,d,b,rfl⟩
theorem X6.vC {f:Z'}{e:I'}(h:X6 f e):KK e:=by
 intro t k;obtain⟨i,j⟩:=Zv.1 k;obtain⟨c,-,g⟩:=h.get i t j;obtain⟨n,a,d,b,-,-,h⟩:=g;exact h
theorem PQ.vC {l:PL}{a:I'}(h:PQ l a):KK a:=by
 obtain⟨b,-,h⟩:=h;exact h.vC
theorem KK.q8 {a:I'}(h:KK a):Q8 a:=fun t b=>(h t b).1
theorem Vn.mk {n:Bool}{a:PL}{d:Bool}{b:PL}{x:Rat}{m:P'}(h:Rw [.bool n,a,.bool d,b] x)(c:XA m):Vn (.bool n::a::.bool d::b::mo m) (x,m):=⟨n,a,d,b,rfl,h,c⟩
theorem vW {x:Rat}(h:x≠0):Nr (mi x.num) (.ofNat 0)=false:=by
 have :x.num≠0:=fun e=>h (Rat.num_eq_zero.1 e)
 unfold mi;rw[if_neg this];split<;>rfl
theorem Lj:Nr (mi (0:Rat).num) (.ofNat 0)=true:=rfl
theorem iL {B:Xq}(i:Std B){c:N'}{z:Rat}(o:Rw c z)(s:Sq z){m:P'}(p:XA m):∀{l:Z'} {g:I'},X6 l g->Sz g->(∀t∈g,XA (Xg m t.2))->
  ∃e,X6 e (XD z m g)/\XT B fun E _=>lN E c m l e
 |_,_,.nil,_,_=>⟨[],.nil,XT.of fun _ _=>.nil⟩
 |_,_,.cons (y:=t) k h,hs,ho=>by
  obtain⟨e,A,C⟩:=iL i o s p h hs.tail fun t k=>ho t (Za _ k)
  obtain⟨n,a,d,b,rfl,D,u⟩:=k;have j:=hs.head;have f:=ho t (Zc ..);have w:=pE i p u f;obtain⟨r,x,q⟩:=Ji i o D s j;obtain⟨I,F,H,G,rfl⟩:=q.len;exact⟨_,.cons (Vn.mk q f) A,(C.and (w.Xk.and x.Xk)).mono fun E K ⟨e1,e2,v⟩=>.cons u f e2 v e1⟩
theorem bX {B:Xq}(i:Std B){c:N'}{z:Rat}(k:Rw c z)(G:Sq z)(h0:z≠0){m:P'}(o:XA m){l:PL}{g:I'}(j:PQ l g)(F:Sz g)(C:∀t∈g,XA (Xg m t.2))(M:g.length<1000000):
  ∃e,Xv B 48 [.agg c,.agg (mo m),.one l] (.Wd [.one (.Xl e),.one (La0 0)])/\X6 e (XD z m g):=by
 obtain⟨q,H,j⟩:=j;have A:=j.length;obtain⟨e,w,x⟩:=iL i k G o j F C;have y:=gP i k;obtain⟨n,a,d,b,rfl⟩:=k.len;refine⟨e,Xv.of (i.Wa _ _ rfl) ((x.and (y.Xk.and (i.Xk.and (XT.ge (q.length+1))))).mono fun E K ⟨e1,e2,f,L⟩=> ?_),w⟩;obtain⟨J,I,N,r,s⟩:=CG (K:=K) o.1 f H (by omega) q e e1 0 K 0 [] [] (by simp) (by simp) (by simp) (by omega);have D:=vW h0;simp only[ZB,Zr,pc,ZF]at r s;have p:=o.1;simp only[Xo,Xs,reduceIte,Nat.reduceEqDiff,Nat.reduceLeDiff,Nat.reduceAdd,x48,Wj,Xc,p,f,X3,e2,D,r,s];have v:=WT e (Zf _);have u:=fun h=>Vb 5 h e
 simp only[pc]at v u;simp only[Xo,Xs,ZP,v,u,Zf]
theorem Ax {B:Xq}(e:Std B){c:N'}(h:Rw c 0){m:P'}(j:XA m)(l:PL):
  Xv B 48 [.agg c,.agg (mo m),.one l] (.Wd [.one .Xp,.one (La0 0)]):=by
 have i:=gP e h;obtain⟨n,a,d,b,rfl⟩:=h.len;refine Xv.of (e.Wa _ _ rfl) ((i.Xk.and e.Xk).mono fun E K ⟨e2,g⟩=> ?_);have k:=Lj;have f:=j.1;simp only[Xo,Xs,reduceIte,Nat.reduceEqDiff,Nat.reduceLeDiff,Nat.reduceAdd,x48,Wj,Xc,f,g,X3,e2,k]
theorem jk {B:Xq}(i:Std B){c:N'}{z:Rat}(k:Rw c z)(v:Sq z){l:PL}{j:I'}(q:PQ l j)(u:Sz j)(s:j.length<1000000):
  ∃r,Xv B 17 [.agg c,.one l] (.one r)/\PQ r (if z=0 then[]else X2 z j):=by
 have h:=q.vC;by_cases h0:z=0
 ·subst h0;have o:=Ax i k Ic l;obtain⟨n,a,d,b,rfl⟩:=k.len;refine⟨.Xp,Xv.of (i.Wa _ _ rfl) ((o.Xk.and i.Xk).mono fun E K ⟨e1,g⟩=> ?_),⟨[],.nil,by rw[if_pos rfl];exact .nil⟩⟩;simp only[zM,mo,Zt,ZF]at e1;simp only[Xo,Xs,reduceIte,Nat.reduceEqDiff,Nat.reduceLeDiff,Nat.reduceAdd,x17,g,X3,e1]
 ·obtain⟨f,o,p⟩:=bX i k v h0 Ic q u (fun t m=>by rw[Qk (h t m).1];exact h t m) s;have e:XD z zM j=X2 z j:=by
   unfold XD X2;exact List.map_congr_left fun t m=>by rw[Qk (h t m).1]
  rw[e]at p;obtain⟨n,a,d,b,rfl⟩:=k.len;refine⟨.Xl f,Xv.of (i.Wa _ _ rfl) ((o.Xk.and i.Xk).mono fun E K ⟨e1,g⟩=> ?_),⟨f,.Xl,by rw[if_neg h0];exact p⟩⟩;simp only[zM,mo,Zt,ZF]at e1;simp only[Xo,Xs,reduceIte,Nat.reduceEqDiff,Nat.reduceLeDiff,Nat.reduceAdd,x17,g,X3,e1]
theorem AO {B:Xq}(I:Std B):∀(n:Nat) {ps qs:Z'} {ts us:I'},ts.length+us.length<=n->X6 ps ts->X6 qs us->Sz ts->Sz us->
  ∃a,X6 a (X8 ts us)/\XT B fun E _=>QH E ps qs a:=by
 intro n;induction n with
 |zero=>
  intro ps qs ts us m J C f g;cases J with
  |cons _ _=>simp at m
  |nil=>cases C with
   |cons _ _=>simp at m
   |nil=>exact⟨[],by rw[X5];exact .nil,XT.of fun _ _=>.nil⟩
 |succ n v=>
  intro ps qs ts us m J C f g;cases J with
  |nil=>cases C with
   |nil=>exact⟨[],by rw[X5];exact .nil,XT.of fun _ _=>.nil⟩
   |@cons c u qs us o h=>
    obtain⟨a,b,d⟩:=v (by simp at m⊢;omega) (ps:=[]) (ts:=[]) .nil h f g.tail;rw[X5]at b⊢;have l:=o;obtain⟨x,y,z,w,rfl,-,q⟩:=l;exact⟨_,.cons o b,d.mono fun E K e=>.Dj q e⟩
  |@cons c t ps ts s h=>cases C with
   |nil=>
    obtain⟨a,b,d⟩:=v (by simp at m⊢;omega) (qs:=[]) (us:=[]) h .nil f.tail g;rw[W6]at b⊢;have j:=s;obtain⟨x,y,z,w,rfl,-,q⟩:=j;exact⟨_,.cons s b,d.mono fun E K e=>.Io q e⟩
   |@cons Q u qs us o k=>
    simp only[Zj]at m;have j:=s;have l:=o;obtain⟨x,y,z,w,rfl,M,p⟩:=j;obtain⟨x2,U,V,T,rfl,N,A⟩:=l;have i:=Ob I p.1 A.1;rw[Ro];rcases VZ t.2 u.2 with e|e|e
    ·rw[if_pos e];rw[e]at i;obtain⟨a,b,d⟩:=v (by simp;omega) h (.cons o k) f.tail g;exact⟨_,.cons s b,(d.and i.Xk).mono fun E K ⟨e1,e2⟩=>.Ip p A e2 e1⟩
    ·rw[if_neg (by rw[e];simp),if_pos e];rw[e]at i;obtain⟨a,b,d⟩:=v (by simp;omega) (.cons s h) k f g.tail;exact⟨_,.cons o b,(d.and i.Xk).mono fun E K ⟨e1,e2⟩=>.Dk p A e2 e1⟩
    ·rw[if_neg (by rw[e];simp),if_neg (by rw[e];simp)];rw[e]at i;obtain⟨a,b,d⟩:=v (by omega) h k f.tail g.tail;obtain⟨r,L,G⟩:=Jl I M N f.head g.head;have H:=gP I G;obtain⟨S,O,R,P,rfl⟩:=G.len;by_cases h0:t.1+u.1=0
     ·rw[if_pos h0];rw[h0]at H;exact⟨_,b,(d.and (i.Xk.and (L.Xk.and H.Xk))).mono fun E K ⟨e1,e2,D,F⟩=>.zero p A e2 D F e1⟩
     ·rw[if_neg h0];exact⟨_,.cons (Vn.mk G p) b,(d.and (i.Xk.and (L.Xk.and H.Xk))).mono fun E K ⟨e1,e2,D,F⟩=>.both p A e2 D F (vW h0) e1⟩
theorem Si {B:Xq}(e:Std B){lp g:PL}{ts d:I'}(b:PQ lp ts)(c:PQ g d)(q:Sz ts)(r:Sz d)(x:ts.length<1000000)(y:d.length<1000000):
  ∃a,Xv B 10 [.one lp,.one g] (.one (.Xl a))/\X6 a (X8 ts d):=by
 obtain⟨m,s,b⟩:=b;obtain⟨n,t,c⟩:=c;have lp:=b.length;have g:=c.length;obtain⟨a,o,p⟩:=AO e _ (Zf _) b c q r;refine⟨a,Xv.of (e.Wa _ _ rfl) ((p.and (e.Xk.and (XT.ge (m.length+n.length+1)))).mono fun E K ⟨e1,f,w⟩=> ?_),o⟩;obtain⟨v,u,z,k,l⟩:=Ki (K:=K) f s t (by omega) (by omega) m n a e1 0 0 K 0 [] [] (by simp) (by simp) (by simp) (by simp) (by simp) (by omega);simp only[ZB,Zr,pc,ZF]at k l;simp only[Xo,Xs,reduceIte,Nat.reduceEqDiff,Nat.reduceLeDiff,Nat.reduceAdd,x10,k,l];have j:=WT a (Zf _);have i:=fun h=>Vb 5 h a
 simp only[pc]at j i;simp only[Xo,Xs,ZP,j,i,Zf]
theorem Sq.neg {x:Rat}(h:Sq x):Sq (-x):=by
 unfold Sq;rw[Rat.neg_num,Rat.neg_den,Int.natAbs_neg];exact h
theorem neg_one_mul (x:Rat): -1*x= -x:=by grind
theorem Sz.neg {b:I'}(h:Sz b):Sz (WE b):=by
 intro t a;simp only[WE,X2,ZM]at a;obtain⟨u,c,rfl⟩:=a;simp only[neg_one_mul];exact(h u c).neg
theorem yj:Sq (-1):=by
 have h:(Xe 1).length=1:=Sg.2 (by decide);unfold Sq;show(Xe 1).length<_/\(Xe 1).length<_;omega
theorem Qf {B:Xq}(b:Std B){lp o:PL}{ts f:I'}(w:PQ lp ts)(y:PQ o f)(v:Sz ts)(i:Sz f)(A:ts.length<1000000)(l:f.length<1000000):
  ∃a,Xv B 12 [.one lp,.one o] (.one (.Xl a))/\X6 a (X8 ts (WE f)):=by
 obtain⟨c,q,j⟩:=OZ b (x:=.negSucc 0) (by unfold IB;decide);obtain⟨r,s,k⟩:=jk b (z:= -1) j yj y i l;have h:PQ r (WE f):=by rw[if_neg (by decide)]at k;exact k
 obtain⟨a,t,u⟩:=Si b w h v i.neg A (by simpa[WE,X2]using l);refine⟨a,Xv.of (b.Wa _ _ rfl) ((q.Xk.and (s.Xk.and (t.Xk.and b.Xk))).mono fun E K ⟨e1,e2,p,g⟩=> ?_),u⟩;obtain⟨n,m,d,e,rfl⟩:=j.len;simp only[Xo,Xs,reduceIte,Nat.reduceEqDiff,Nat.reduceLeDiff,Nat.reduceAdd,x12,g,X3,e1,e2,p]
def dH (us:I'):I'->I'->Prop
 |_,[]=>True
 |acc,t::ts=>Sz acc/\Sz (XD t.1 t.2 us)/\dH us (X8 acc (XD t.1 t.2 us)) ts
theorem AE {B:Xq}(k:Std B){s:PL}{b:I'}(L:PQ s b)(I:Sz b)(n:b.length<1000):∀{d:Z'} {c:I'},X6 d c->Sz c->(∀t∈c,t.1≠0/\∀u∈b,XA (Xg t.2 u.2))->
  ∀(r:PL) (a:I'),PQ r a->dH b a c->a.length+c.length*b.length<1000000->
  ∃e,PQ e (Wy a c b)/\XT B fun E _=>vn E s d r e:=by
 intro d c h;induction h with
 |nil=>intro _ _ r a f _ _;exact⟨r,f,XT.of fun _ _=>.nil⟩
 |@cons ch t d c g h M=>
  intro l p r a f J m;obtain⟨x,y,z,w,rfl,S,A⟩:=g;obtain⟨i,j⟩:=p t (Zc ..);obtain⟨Q,m2,R⟩:=J;simp only[Zj]at m;rw[ZX,Yf]at m;obtain⟨o,D,F⟩:=bX k S l.head i A L I j (by omega);obtain⟨v,G,H⟩:=Si k f ⟨o,.Xl,F⟩ Q m2 (by omega) (by simp[XD];omega);have q:=UY _ a (XD t.1 t.2 b) (Zf _);have P:(XD t.1 t.2 b).length=b.length:=by simp[XD]
  obtain⟨e,N,O⟩:=M l.tail (fun t g=>p t (Za _ g)) (.Xl v) (X8 a (XD t.1 t.2 b)) ⟨v,.Xl,H⟩ R (by omega);exact⟨e,N,(O.and (D.Xk.and G.Xk)).mono fun E K ⟨e1,e2,C⟩=>.cons A e2 C e1⟩
theorem AD {B:Xq}(c:Std B){lp s:PL}{ts a:I'}(T:PQ lp ts)(G:PQ s a)(D:Sz ts)(F:Sz a)(H:∀t∈ts,t.1≠0/\∀u∈a,XA (Xg t.2 u.2))(l:dH a [] ts)(l1:ts.length<100000)(l2:a.length<1000)(I:ts.length*a.length<900000):
  ∃g,Xv B 38 [.one lp,.one s] (.Wd [.one g,.one (La0 0)])/\PQ g (Wy [] ts a):=by
 obtain⟨f,j,e⟩:=T;have m:f.length=ts.length:=e.length;cases e with
 |nil=>
  refine⟨.Xl [],Xv.of (c.Wa _ _ rfl) ((c.Xk.and (XT.ge 1)).mono fun E K ⟨d,Q⟩=> ?_),⟨[],.Xl,.nil⟩⟩;obtain⟨b,rfl⟩:∃b,K=b+1:=⟨K-1,by omega⟩;simp only[Xo,Xs,reduceIte,Nat.reduceEqDiff,Nat.reduceLeDiff,Nat.reduceAdd,x38,x38_1,Xb,j.len,Zx]
 |@cons ch t f ts n h=>
  obtain⟨x,y,z,w,rfl,p1,A⟩:=n;obtain⟨q,r⟩:=H t (Zc ..);simp only[Zj]at l1 I m;rw[ZX,Yf]at I;obtain⟨m1,m2,J⟩:=l;rw[X5]at J;obtain⟨o,N,O⟩:=bX c p1 D.head q A G F r (by omega);obtain⟨v,P,C⟩:=Si c (lp:=.Xl []) (ts:=[]) ⟨[],.Xl,.nil⟩ ⟨o,.Xl,O⟩ Sz.nil m2 (by simp) (by simp[XD];omega);rw[X5]at C;obtain⟨g,V,W⟩:=AE c G F l2 h D.tail (fun t n=>H t (Za _ n)) (.Xl v) (XD t.1 t.2 a) ⟨v,.Xl,C⟩ J (by simp[XD];omega);have S:Wy [] (t::ts) a=Wy (XD t.1 t.2 a) ts a:=by simp only[Wy,X5]
  refine⟨g,Xv.of (c.Wa _ _ rfl) ((W.and (N.Xk.and (P.Xk.and (c.Xk.and (XT.ge (f.length+3)))))).mono fun E K ⟨M,e1,e2,d,Q⟩=> ?_),by rw[S];exact V⟩;obtain⟨b,rfl⟩:∃b,K=b+1:=⟨K-1,by omega⟩;obtain⟨L,q1,q2⟩:=JA (K:=b+1) d j (by simp;omega) f (.Xl v) g M 1 b [⟨true,0,12,[],false,75⟩] (by simp) (by simp;omega) (by omega);have U:=fun(R:HF) (Y:IntKind)=>j.idx (h:=R) (k:=Y) (i:=0) (sz:=12) rfl (by simp[XI,A.1])
  have X:=A.1;have tk:(Xu t.2).take 8=Xu t.2:=Ze (by rw[Xc];omega);have Z:0<f.length+1:=by omega
  have first :Xb E (b+1) 0 [0,1,6,7] x38_1 (b+1) ⟨[(0,La4 lp),(1,La4 s),(6,.one (.own 0 0 0 0)),(7,La1 0)],[⟨false,0,12,[],false,75⟩]⟩=some (.exit 0,⟨L,[⟨true,0,12,[],false,75⟩]⟩):=by
   rw[Xb];simp only[Xo,Xs,VD,reduceIte,Nat.reduceEqDiff,Nat.reduceLeDiff,Nat.reduceAdd,x38_1,j.len,Z,U,Wj,Xc,XI,X,tk,Wc,Wg,d,X3,e1,e2,w1];exact q1
  simp only[Xo,Xs,VD,reduceIte,Nat.reduceEqDiff,Nat.reduceLeDiff,Nat.reduceAdd,x38,first,q2]
theorem Pu {B:Xq}(d:Std B){g h:PL}{a b:I'}(m:PQ g a)(n:PQ h b)(k:Sz a)(l:Sz b)(o:∀t∈a,t.1≠0/\∀u∈b,XA (Xg t.2 u.2))(f:dH b [] a)(p:a.length<100000)(q:b.length<1000)(r:a.length*b.length<900000):
  ∃c,Xv B 11 [.one g,.one h] (.one c)/\PQ c (Wy [] a b):=by
 obtain⟨c,i,j⟩:=AD d m n k l o f p q r;refine⟨c,Xv.of (d.Wa _ _ rfl) ((i.Xk.and d.Xk).mono fun E K ⟨e1,e⟩=> ?_),j⟩;simp only[Xo,Xs,reduceIte,Nat.reduceEqDiff,Nat.reduceLeDiff,Nat.reduceAdd,x11,e,X3,e1]
theorem Ul {c:N'}{es:Z'}(a:∀d∈es,d.length=12)(h:HF):WN 12 h (.p (.Xl (c::es))) 1 none=some (.p (.Xl es),[]):=by
 have f:QF 12 (c::es)[1]? =true:=by
  cases es with
  |nil=>rfl
  |cons d es=>exact zJ (a d (by simp))
 have b:Nat.ble 1 (es.length+1)=true:=PU (by omega);have e:Nat.ble (es.length+1) (es.length+1)=true:=PU (Zf _);simp only[WN,Option.getD_none,Zj,b,e,f,Bool.and_self,cond_true,List.take_succ_cons,Yg,List.drop_succ_cons,Z7]
theorem Sl.VU {l:PL}{c:N'}{a:Z'}(h:Sl l (c::a)):l=.Xl (c::a):=by
 rcases h with h|⟨h,_⟩
 ·exact h
 ·cases h
def Q3 (c:N'):Prop:=∃x y z u m,c=x::y::z::u::mo m/\XA m
theorem Q3.len {c:N'}(h:Q3 c):c.length=12:=by
 obtain⟨x,y,z,u,m,rfl,h⟩:=h;simp[XI,h.1]
theorem DW (a b:Z'):pc a++b.map (·.map DL.p)=pc (a++b):=by simp[pc]
inductive RW (E:Xa)(fN:Nat):Z'->Z'->Z'->Z'->Z'->Prop
 |CO {qs:Z'}:RW E fN [] qs [] [] qs
 |If {c:N'} {ps:Z'}:RW E fN (c::ps) [] [] (c::ps) []
 |left {x y z u x2 y2 z2 u2:PL} {m n:P'} {ps qs os ps' qs':Z'} (hm:XA m) (hn:XA n) (hc:E.pure 151 [.agg (mo m),.agg (mo n)]=some (.one (La0 1))) (h:RW E fN ps ((x2::y2::z2::u2::mo n)::qs) os ps' qs'):
   RW E fN ((x::y::z::u::mo m)::ps) ((x2::y2::z2::u2::mo n)::qs) ((x::y::z::u::mo m)::os) ps' qs'
 |right {x y z u x2 y2 z2 u2 w1 w2 w3 w4:PL} {m n:P'} {ps qs os ps' qs':Z'} (hm:XA m) (hn:XA n) (hc:E.pure 151 [.agg (mo m),.agg (mo n)]=some (.one (.int .i64 (.negSucc 0)))) (hf:E.pure fN [.agg [x2,y2,z2,u2]]=some (.agg [w1,w2,w3,w4])) (h:RW E fN ((x::y::z::u::mo m)::ps) qs os ps' qs'):
   RW E fN ((x::y::z::u::mo m)::ps) ((x2::y2::z2::u2::mo n)::qs) ((w1::w2::w3::w4::mo n)::os) ps' qs'
 |zero {x y z u x2 y2 z2 u2 w1 w2 w3 w4 r1 r2 r3 r4:PL} {m n:P'} {ps qs os ps' qs':Z'} (hm:XA m) (hn:XA n) (hc:E.pure 151 [.agg (mo m),.agg (mo n)]=some (.one (La0 0))) (hf:E.pure fN [.agg [x2,y2,z2,u2]]=some (.agg [w1,w2,w3,w4]))
   (ha:E.pure 157 [.agg [x,y,z,u],.agg [w1,w2,w3,w4]]=some (.agg [r1,r2,r3,r4])) (hs:E.pure 158 [.agg [r1,r2,r3,r4]]=some (.one (La0 0))) (h:RW E fN ps qs os ps' qs'):
   RW E fN ((x::y::z::u::mo m)::ps) ((x2::y2::z2::u2::mo n)::qs) os ps' qs'
 |both {x y z u x2 y2 z2 u2 w1 w2 w3 w4 r1 r2 r3 r4:PL} {m n:P'} {s:Int} {ps qs os ps' qs':Z'} (hm:XA m) (hn:XA n) (hc:E.pure 151 [.agg (mo m),.agg (mo n)]=some (.one (La0 0))) (hf:E.pure fN [.agg [x2,y2,z2,u2]]=some (.agg [w1,w2,w3,w4]))
   (ha:E.pure 157 [.agg [x,y,z,u],.agg [w1,w2,w3,w4]]=some (.agg [r1,r2,r3,r4])) (hs:E.pure 158 [.agg [r1,r2,r3,r4]]=some (.one (.int .i64 s))) (h0:Nr s (.ofNat 0)=false) (h:RW E fN ps qs os ps' qs'):
   RW E fN ((x::y::z::u::mo m)::ps) ((x2::y2::z2::u2::mo n)::qs) ((r1::r2::r3::r4::mo m)::os) ps' qs'
theorem Bg {E:Xa}{K t:Nat}(T:E.mode=md)(a0:md t=.pure)(a1:hJ t=t)(a2:∀vs:X',xy t vs []=vs):∀(g j L D F:Z'),RW E t g j L D F->(∀d∈g,d.length=12)->(∀d∈j,d.length=12)->
  ∀(I J:PL) (k v:Nat) (o:Z') (G:V'),Sl I g->Sl J j->o.length+g.length+j.length<2000000->g.length+j.length<k->
  ∃a R Q q r,Xb E K 0 [0,1,2,7] x118_1 k ⟨[(0,La4 I),(1,La4 J),(2,La4 (.fn t [])),(7,.one (.own 0 v 0 o.length))],⟨false,v,12,pc o,false,75⟩::G⟩=some (.exit 0,⟨a,⟨false,Q,12,pc (o++L),false,75⟩::R⟩)/\(Xi a 0=some (La4 q)/\Xi a 1=some (La4 r)/\Xi a 2=some (La4 (.fn t []))/\Xi a 7=some (.one (.own 0 Q 0 (o++L).length)))/\Sl q D/\Sl r F:=by
 have cv:∀(h:HF) (l:Y'),Rr E h [La4 (.fn t []),.agg l]=VL E h t [.agg l]:=fun h l=>by show VL E h (hJ t) (xy t [.agg l] [])=_;rw[a1,a2]
 have hv:∀(l:Y'),XQ E .Sw [La4 (.fn t []),.agg l]=TB E t:=fun l=>by show TB E (hJ t)=_;rw[a1]
 have hw:Xm E .Sw=false:=rfl;intro g j L D F h;induction h with
 |@CO j=>
  intro b f I J k v o G w A U S;rcases k with _|k;omega;have :∃a,Xb E K 0 [0,1,2,7] x118_1 (k+1) ⟨[(0,La4 I),(1,La4 J),(2,La4 (.fn t [])),(7,.one (.own 0 v 0 o.length))],⟨false,v,12,pc o,false,75⟩::G⟩=some (.exit 0,⟨a,⟨false,v,12,pc o,false,75⟩::G⟩)/\(Xi a 0=some (La4 I)/\Xi a 1=some (La4 J)/\Xi a 2=some (La4 (.fn t []))/\Xi a 7=some (.one (.own 0 v 0 o.length))):=by
   apply VW
   ·rw[Xb];simp only[Xo,Xs,VD,reduceIte,Nat.reduceEqDiff,x118_1,w.len,Zx];rfl
   ·simp only[Xo,reduceIte,Nat.reduceEqDiff,and_self]
  obtain⟨a,H,M⟩:=this;exact⟨a,G,v,I,J,by simpa using H,by simpa using M,w,A⟩
 |@If c g=>
  intro b f I J k v o G w A U S;rcases k with _|k;omega;have :∃a,Xb E K 0 [0,1,2,7] x118_1 (k+1) ⟨[(0,La4 I),(1,La4 J),(2,La4 (.fn t [])),(7,.one (.own 0 v 0 o.length))],⟨false,v,12,pc o,false,75⟩::G⟩=some (.exit 0,⟨a,⟨false,v,12,pc o,false,75⟩::G⟩)/\(Xi a 0=some (La4 I)/\Xi a 1=some (La4 J)/\Xi a 2=some (La4 (.fn t []))/\Xi a 7=some (.one (.own 0 v 0 o.length))):=by
   apply VW
   ·rw[Xb];simp only[Xo,Xs,VD,reduceIte,Nat.reduceEqDiff,x118_1,w.len,A.len,Yu,Zx];rfl
   ·simp only[Xo,reduceIte,Nat.reduceEqDiff,and_self]
  obtain⟨a,H,M⟩:=this;exact⟨a,G,v,I,J,by simpa using H,by simpa using M,w,A⟩
 |@left x y z u x2 W X V m n g j os D F hm hn Z h ih=>
  intro b f I J k v o G w A U S;rcases k with _|k;omega;simp only[Zj]at U S;obtain rfl:=Sl.VU w;obtain rfl:=Sl.VU A;have O:=hm.1;have P:=hn.1;have tm:(Xu m).take 8=Xu m:=Ze (by rw[Xc];omega);have tn:(Xu n).take 8=Xu n:=Ze (by rw[Xc];omega);have ip:=fun(B:HF) (C:IntKind)=>w.idx (h:=B) (k:=C) (i:=0) (sz:=12) rfl (by simp[XI,O])
  have iq:=fun(B:HF) (C:IntKind)=>A.idx (h:=B) (k:=C) (i:=0) (sz:=12) rfl (by simp[XI,P])
  have s1:=Ul (c:=x::y::z::u::mo m) (es:=g) fun d e=>b d (Za _ e)
  have s2:=Ul (c:=x2::W::X::V::mo n) (es:=j) fun d e=>f d (Za _ e)
  have l1:0<g.length+1:=by omega
  have l2:0<j.length+1:=by omega
  have f2:(o.length+1)*128<=lim:=by unfold lim;omega
  have f3:o.length+1<=9223372036854775807:=by omega
  obtain⟨a,R,Q,q,r,H,M,Y⟩:=ih (fun d e=>b d (Za _ e)) f (.Xl g) (.Xl ((x2::W::X::V::mo n)::j)) k (v+1) (o++[(x::y::z::u::mo m)]) (G++[⟨false,0,12,[.p x::.p y::.p z::.p u::Xu m],false,75⟩]) .Xl .Xl (by simp only[Zn,Zj,Zr];omega) (by first |omega|(simp only[Zj];omega));refine⟨a,R,Q,q,r,?_,by simpa using M,Y⟩;rw[Zp,ZW,Zn,ZK]at H;rw[Xb];simp only[Xo,Xs,VD,reduceIte,Nat.reduceEqDiff,Nat.reduceLeDiff,Nat.reduceLT,Nat.reduceAdd,x118_1,l1,l2,ip,iq,O,P,tm,tn,f2,f3,s1,Wj,Xc,XI,Wc,Wg,T,X3,Z,WB,VR];exact H
 |@right x y z u x2 W X V w1 w2 w3 w4 m n g j os D F hm hn Z hf h ih=>
  intro b f I J k v o G w A U S;rcases k with _|k;omega;simp only[Zj]at U S;obtain rfl:=Sl.VU w;obtain rfl:=Sl.VU A;have O:=hm.1;have P:=hn.1;have tm:(Xu m).take 8=Xu m:=Ze (by rw[Xc];omega);have tn:(Xu n).take 8=Xu n:=Ze (by rw[Xc];omega);have ip:=fun(B:HF) (C:IntKind)=>w.idx (h:=B) (k:=C) (i:=0) (sz:=12) rfl (by simp[XI,O])
  have iq:=fun(B:HF) (C:IntKind)=>A.idx (h:=B) (k:=C) (i:=0) (sz:=12) rfl (by simp[XI,P])
  have s1:=Ul (c:=x::y::z::u::mo m) (es:=g) fun d e=>b d (Za _ e)
  have s2:=Ul (c:=x2::W::X::V::mo n) (es:=j) fun d e=>f d (Za _ e)
  have l1:0<g.length+1:=by omega
  have l2:0<j.length+1:=by omega
  have f2:(o.length+1)*128<=lim:=by unfold lim;omega
  have f3:o.length+1<=9223372036854775807:=by omega
  obtain⟨a,R,Q,q,r,H,M,Y⟩:=ih b (fun d e=>f d (Za _ e)) (.Xl ((x::y::z::u::mo m)::g)) (.Xl j) k (v+1) (o++[(w1::w2::w3::w4::mo n)]) (G++[⟨false,0,12,[.p w1::.p w2::.p w3::.p w4::Xu n],false,75⟩]) .Xl .Xl (by simp only[Zn,Zj,Zr];omega) (by first |omega|(simp only[Zj];omega));refine⟨a,R,Q,q,r,?_,by simpa using M,Y⟩;rw[Zp,ZW,Zn,ZK]at H;rw[Xb];simp only[Xo,Xs,VD,reduceIte,Nat.reduceEqDiff,Nat.reduceLeDiff,Nat.reduceLT,Nat.reduceAdd,x118_1,l1,l2,ip,iq,cv,hv,hw,O,P,tm,tn,f2,f3,s2,Wj,Xc,XI,Wc,Wg,T,a0,X3,Z,hf,WB,VR];exact H
 |@zero x y z u x2 W X V w1 w2 w3 w4 r1 r2 r3 r4 m n g j os D F hm hn Z hf ha hs h ih=>
  intro b f I J k v o G w A U S;rcases k with _|k;omega;simp only[Zj]at U S;obtain rfl:=Sl.VU w;obtain rfl:=Sl.VU A;have O:=hm.1;have P:=hn.1;have tm:(Xu m).take 8=Xu m:=Ze (by rw[Xc];omega);have tn:(Xu n).take 8=Xu n:=Ze (by rw[Xc];omega);have ip:=fun(B:HF) (C:IntKind)=>w.idx (h:=B) (k:=C) (i:=0) (sz:=12) rfl (by simp[XI,O])
  have iq:=fun(B:HF) (C:IntKind)=>A.idx (h:=B) (k:=C) (i:=0) (sz:=12) rfl (by simp[XI,P])
  have s1:=Ul (c:=x::y::z::u::mo m) (es:=g) fun d e=>b d (Za _ e)
  have s2:=Ul (c:=x2::W::X::V::mo n) (es:=j) fun d e=>f d (Za _ e)
  have l1:0<g.length+1:=by omega
  have l2:0<j.length+1:=by omega
  have f2:(o.length+1)*128<=lim:=by unfold lim;omega
  have f3:o.length+1<=9223372036854775807:=by omega
  obtain⟨a,R,Q,q,r,H,M,Y⟩:=ih (fun d e=>b d (Za _ e)) (fun d e=>f d (Za _ e)) (.Xl g) (.Xl j) k v o (G++[⟨false,0,4,[[.p r1,.p r2,.p r3,.p r4]],false,48⟩]) .Xl .Xl (by omega) (by omega);refine⟨a,R,Q,q,r,?_,M,Y⟩;rw[Xb];simp only[Xo,Xs,VD,reduceIte,Nat.reduceEqDiff,Nat.reduceLeDiff,Nat.reduceAdd,x118_1,l1,l2,ip,iq,cv,hv,hw,O,P,tm,tn,s1,s2,Wj,Xc,XI,Wc,Wg,T,a0,X3,Z,hf,ha,hs];exact H
 |@both x y z u x2 W X V w1 w2 w3 w4 r1 r2 r3 r4 m n s g j os D F hm hn Z hf ha hs h0 h ih=>
  intro b f I J k v o G w A U S;rcases k with _|k;omega;simp only[Zj]at U S;obtain rfl:=Sl.VU w;obtain rfl:=Sl.VU A;have O:=hm.1;have P:=hn.1;have tm:(Xu m).take 8=Xu m:=Ze (by rw[Xc];omega);have tn:(Xu n).take 8=Xu n:=Ze (by rw[Xc];omega);have ip:=fun(B:HF) (C:IntKind)=>w.idx (h:=B) (k:=C) (i:=0) (sz:=12) rfl (by simp[XI,O])
  have iq:=fun(B:HF) (C:IntKind)=>A.idx (h:=B) (k:=C) (i:=0) (sz:=12) rfl (by simp[XI,P])
  have s1:=Ul (c:=x::y::z::u::mo m) (es:=g) fun d e=>b d (Za _ e)
  have s2:=Ul (c:=x2::W::X::V::mo n) (es:=j) fun d e=>f d (Za _ e)
  have l1:0<g.length+1:=by omega
  have l2:0<j.length+1:=by omega
  have f2:(o.length+1)*128<=lim:=by unfold lim;omega
  have f3:o.length+1<=9223372036854775807:=by omega
  obtain⟨a,R,Q,q,r,H,M,Y⟩:=ih (fun d e=>b d (Za _ e)) (fun d e=>f d (Za _ e)) (.Xl g) (.Xl j) k (v+1) (o++[(r1::r2::r3::r4::mo m)]) (G++[⟨false,0,4,[[.p r1,.p r2,.p r3,.p r4]],false,48⟩,⟨false,0,12,[.p r1::.p r2::.p r3::.p r4::Xu m],false,75⟩]) .Xl .Xl (by simp only[Zn,Zj,Zr];omega) (by first |omega|(simp only[Zj];omega));refine⟨a,R,Q,q,r,?_,by simpa using M,Y⟩;rw[Zp,ZW,Zn,ZK]at H;rw[Xb];simp only[Xo,Xs,VD,reduceIte,Nat.reduceEqDiff,Nat.reduceLeDiff,Nat.reduceLT,Nat.reduceAdd,x118_1,l1,l2,ip,iq,cv,hv,hw,O,P,tm,tn,f2,f3,s1,s2,Wj,Xc,XI,Wc,Wg,T,a0,X3,Z,hf,ha,hs,h0,WB,VR];exact H
def Km (E:Xa)(fN:Nat)(c d:N'):Prop:=∃x y z u w1 w2 w3 w4 m,c=x::y::z::u::mo m/\d=w1::w2::w3::w4::mo m/\XA m/\E.pure fN [.agg [x,y,z,u]]=some (.agg [w1,w2,w3,w4])
theorem fV {E:Xa}{K c:Nat}{H:PL}(r:E.mode=md)(s:md c=.pure)(n:hJ c=c)(q:∀P:X',xy c P []=P){b a:Z'}(O:Sl H b)(W:b.length<1000000)(f:XE (Km E c) b a):∀(d i k v:Nat) (o:Z') (G:V'),i+d=b.length->d<k->o.length+d<3000000->
  ∃g A w,Xb E K 0 [2,7,92,93,94] x118_2 k ⟨[(2,La4 (.fn c [])),(7,.one (.own 0 v 0 o.length)),(92,La4 H),(93,La1 b.length),(94,La1 i)],⟨false,v,12,pc o,false,75⟩::G⟩=
    some (.exit 3,⟨g,⟨false,w,12,pc (o++a.drop i),false,75⟩::A⟩)/\Xi g 7=some (.one (.own 0 w 0 (o++a.drop i).length))
 |_,_,0,_,_,_,_,h,_=>by omega
 |0,i,k+1,v,o,G,hi,_,_=>by
  obtain rfl:i=b.length:=by omega
  have :∃g,Xb E K 0 [2,7,92,93,94] x118_2 (k+1) ⟨[(2,La4 (.fn c [])),(7,.one (.own 0 v 0 o.length)),(92,La4 H),(93,La1 b.length),(94,La1 b.length)],⟨false,v,12,pc o,false,75⟩::G⟩=
    some (.exit 3,⟨g,⟨false,v,12,pc o,false,75⟩::G⟩)/\Xi g 7=some (.one (.own 0 v 0 o.length)):=by
   apply VW
   ·rw[Xb];simp only[Xo,Xs,reduceIte,Nat.reduceEqDiff,x118_2,Zx];rfl
   ·simp only[Xo,reduceIte,Nat.reduceEqDiff]
  obtain⟨g,t,B⟩:=this;have e:a.drop b.length=[]:=Zo (by rw[f.length];omega);exact⟨g,G,v,by rw[e];simpa using t,by rw[e];simpa using B⟩
 |d+1,i,k+1,v,o,G,hi,hk,ho=>by
  have F:i<b.length:=by omega
  have X:=f.length;have j:i<a.length:=by omega
  obtain⟨c0,U,x,y,z,u,w1,I,J,L,m,rfl,C,Y,D⟩:=f.get i _ (Zd j);have M:a.drop i=(w1::I::J::L::mo m)::a.drop (i+1):=by rw[Z0 j,C]
  have Q:∀(h:HF) (l:Y'),Rr E h [La4 (.fn c []),.agg l]=VL E h c [.agg l]:=fun h l=>by show VL E h (hJ c) (xy c [.agg l] [])=_;rw[n,q]
  have Z:∀(l:Y'),XQ E .Sw [La4 (.fn c []),.agg l]=TB E c:=fun l=>by show TB E (hJ c)=_;rw[n]
  have hw:Xm E .Sw=false:=rfl;have N:=Y.1;have tm:(Xu m).take 8=Xu m:=Ze (by rw[Xc];omega);have a0:(Xu m).drop 8=[]:=Zo (by rw[Xc];omega);have ip:=fun(V:HF) (kd:IntKind)=>O.idx (h:=V) (k:=kd) (sz:=12) U (by simp[XI,N])
  have R:Xd .i64 (.ofNat (i+1))=.ofNat (i+1):=wrap_i64 (by omega);have S:(o.length+1)*128<=lim:=by unfold lim;omega
  have T:o.length+1<=9223372036854775807:=by omega
  obtain⟨g,A,w,t,B⟩:=fV r s n q O W f d (i+1) k (v+1) (o++[w1::I::J::L::mo m]) (G++[⟨false,0,12,[.p x::.p y::.p z::.p u::Xu m],false,75⟩,⟨false,0,12,[.p w1::.p I::.p J::.p L::Xu m],false,75⟩]) (by omega) (by omega) (by simp;omega);refine⟨g,A,w,?_,by rw[M];simpa using B⟩;rw[Zp,ZW,Zn,ZK,<-M]at t;rw[Xb];simp only[Xo,Xs,VD,reduceIte,Nat.reduceEqDiff,Nat.reduceLeDiff,Nat.reduceLT,Nat.reduceAdd,x118_2,F,ip,Q,Z,hw,N,tm,R,S,T,Wj,Xc,r,s,D,WB,VR];exact t
def mE (f:Rat->Rat)(ts:I'):I':=ts.map fun t=>(f t.1,t.2)
structure FW (B:Xq)(fN:Nat)(f:Rat->Rat):Prop where
 md:md fN=.pure
 fF:hJ fN=fN
 fA:∀vs:X',xy fN vs []=vs
 ret:∀{c:N'} {y:Rat},Rw c y->Sq y->∃d,Xv B fN [.agg c] (.agg d)/\Rw d (f y)
 sq:∀{y:Rat},Sq y->Sq (f y)
theorem Vn.form {c:N'}{t:Qm}(h:Vn c t):Q3 c:=by
 obtain⟨n,a,d,b,rfl,-,h⟩:=h;exact⟨_,_,_,_,_,rfl,h⟩
theorem X6.cU {b:Z'}{e:I'}(h:X6 b e):∀c∈b,Q3 c:=by
 induction h with
 |nil=>intro c a;cases a
 |cons h _ d=>
  intro c a;rcases Zk.1 a with rfl|a
  ·exact Vn.form h
  ·exact d c a
theorem tP {B:Xq}{k:Nat}{f:Rat->Rat}(m:FW B k f):∀{p:Z'} {j:I'},X6 p j->Sz j->∃g,X6 g (mE f j)/\XT B fun E _=>XE (Km E k) p g
 |_,_,.nil,_=>⟨[],.nil,XT.of fun _ _=>.nil⟩
 |_,_,.cons (x:=c) (y:=u) v h,hs=>by
  obtain⟨g,r,s⟩:=tP m h hs.tail;have i:=v;obtain⟨n,a,d,b,rfl,q,o⟩:=i;obtain⟨e,t,l⟩:=m.ret q hs.head;obtain⟨C,w,A,z,rfl⟩:=l.len;exact⟨_,.cons (Vn.mk l o) r,(s.and t.Xk).mono fun E K ⟨e1,e2⟩=>.cons ⟨_,_,_,_,_,_,_,_,_,rfl,rfl,o,e2⟩ e1⟩
theorem wH {B:Xq}(S:Std B){Q:Nat}{f:Rat->Rat}(T:FW B Q f):∀(n:Nat) {l q:Z'} {m s:I'},m.length+s.length<=n->X6 l m->X6 q s->Sz m->Sz s->
  ∃d b g a,X6 (d++(b++a)) (X8 m (mE f s))/\(XT B fun E _=>RW E Q l q d b g)/\(XT B fun E _=>XE (Km E Q) g a)/\(∀c∈b,Q3 c)/\a.length=g.length/\b.length<=l.length/\g.length<=q.length/\d.length<=l.length+q.length:=by
 intro n;induction n with
 |zero=>
  intro l q m s N U L J A;cases U with
  |cons _ _=>simp at N
  |nil=>cases L with
   |cons _ _=>simp at N
   |nil=>exact⟨[],[],[],[],by rw[X5];exact .nil,XT.of fun _ _=>.CO,XT.of fun _ _=>.nil,(fun _ h=>by cases h),rfl,Zf _,Zf _,by simp⟩
 |succ n X=>
  intro l q m s N U L J A;cases U with
  |nil=>
   obtain⟨a,j,p⟩:=tP T L A;have e1:=j.length;have e2:=L.length;simp only[mE,ZP]at e1;exact⟨[],[],q,a,by rw[X5];exact j,XT.of fun _ _=>.CO,p,(fun _ h=>by cases h),by omega,Zf _,Zf _,by simp⟩
  |@cons c t l m M h=>cases L with
   |nil=>exact⟨[],c::l,[],[],by rw[show mE f []=[]from rfl,W6];simpa using(XE.cons M h:X6 (c::l) (t::m)),XT.of fun _ _=>.If,XT.of fun _ _=>.nil,X6.cU (.cons M h),rfl,Zf _,Zf _,by simp⟩
   |@cons c2 u q s hu k=>
    simp only[Zj]at N⊢;have V:=M;have W:=hu;obtain⟨x,y,z,w,rfl,p1,G⟩:=V;obtain⟨x2,y2,z2,w2,rfl,q1,H⟩:=W;have C:=Nc S G.1 H.1;obtain⟨e,Y,Z⟩:=T.ret q1 A.head;obtain⟨n1,a1,d1,b1,rfl⟩:=Z.len;show∃d b g a,X6 (d++(b++a)) (X8 (t::m) ((f u.1,u.2)::mE f s))/\_;rw[Ro];rcases VZ t.2 u.2 with e|e|e
    ·rw[if_pos e];rw[e]at C;obtain⟨o,b,g,a,j,p,i,D,v,F,g6,R⟩:=X (by simp;omega) h (.cons hu k) J.tail A;simp only[Zj]at g6 R;exact⟨_,_,_,_,.cons M j,(p.and C.Xk).mono fun E K ⟨e1,e2⟩=>.left G H e2 e1,i,D,v,by omega,by omega,by simp;omega⟩
    ·rw[if_neg (by rw[e];simp),if_pos e];rw[e]at C;obtain⟨o,b,g,a,j,p,i,D,v,F,g6,R⟩:=X (by simp;omega) (.cons M h) k J A.tail;simp only[Zj]at F R;exact⟨_,_,_,_,.cons (Vn.mk Z H) j,(p.and (C.Xk.and Y.Xk)).mono fun E K ⟨e1,e2,I⟩=>.right G H e2 I e1,i,D,v,by omega,by omega,by simp;omega⟩
    ·rw[if_neg (by rw[e];simp),if_neg (by rw[e];simp)];rw[e]at C;obtain⟨o,b,g,a,j,p,i,w3,w4,w5,w6,w7⟩:=X (by omega) h k J.tail A.tail;obtain⟨r,D,v⟩:=jt S p1 Z J.head (T.sq A.head);have F:=NY S v;obtain⟨n',a',d',b',rfl⟩:=v.len;by_cases h0:t.1+f u.1=0
     ·rw[if_pos h0];rw[h0]at F;exact⟨_,_,_,_,j,(p.and (C.Xk.and (D.Xk.and (F.Xk.and Y.Xk)))).mono fun E K ⟨e1,e2,I,O,P⟩=>.zero G H e2 P I O e1,i,w3,w4,by omega,by omega,by omega⟩
     ·rw[if_neg h0];exact⟨_,_,_,_,.cons (Vn.mk v G) j,(p.and (C.Xk.and (D.Xk.and (F.Xk.and Y.Xk)))).mono fun E K ⟨e1,e2,I,O,P⟩=>.both G H e2 P I O (vW h0) e1,i,w3,w4,by omega,by omega,by simp;omega⟩
theorem jQ {B:Xq}(y:Std B){G:Nat}{f:Rat->Rat}(b:FW B G f){D F:PL}{u v:I'}(n:PQ D u)(r:PQ F v)(h1:Sz u)(h2:Sz v)(l1:u.length<400000)(l2:v.length<400000):
  ∃e,Xv B 118 [.one D,.one F,.one (.fn G [])] (.one (.Xl e))/\X6 e (X8 u (mE f v)):=by
 obtain⟨j,P,n⟩:=n;obtain⟨k,Q,r⟩:=r;have S:=n.length;have T:=r.length;obtain⟨o,a,t,i,g1,g2,w,g3,g4,g5,g6,g7⟩:=wH y b _ (Zf _) n r h1 h2;refine⟨o++(a++i),Xv.of (y.Wa _ _ rfl) ((g2.and (w.and (y.Xk.and (XT.ge (j.length+k.length+1))))).mono fun E K ⟨e1,A,m,hK⟩=> ?_),g1⟩;obtain⟨T',R,v',a0,a1,L,⟨k2,k3,k4,M⟩,k6,N⟩:=Bg (K:=K) m b.md b.fF b.fA j k o a t e1 (fun d l=>Q3.len (X6.cU n d l)) (fun d l=>Q3.len (X6.cU r d l)) D F K 0 [] [] P Q (by simp;omega) (by omega);simp only[ZB,Zr]at L M;obtain⟨T2,G2,v2,O,m2⟩:=fV (K:=K) m b.md b.fF b.fA N (by omega) A t.length 0 K (v'+1) (o++a) R (by omega) (by omega) (by simp;omega);rw[Z7,Zp]at O m2;have U:Xd .i64 (.ofNat (j.length+k.length))=.ofNat (j.length+k.length):=wrap_i64 (by omega);have V:128*(j.length+k.length)<=lim:=by unfold lim;omega
 have W:j.length+k.length<=9223372036854775807:=by omega
 have X:(o.length+a.length)*128<=lim:=by unfold lim;omega
 have Y:o.length+a.length<=9223372036854775807:=by omega
 have Z:(a.map (·.map DL.p)).all (fun c=>decide (c.length=12))=true:=by
  rw[ZH];intro c H;simp only[ZM]at H;obtain⟨d,l,rfl⟩:=H;simp[Q3.len (g3 d l)]
 have f6:(a.map (·.map DL.p)).length=a.length:=by simp
 have J:=WT (o++(a++i)) (Zf _);have I:=fun h=>Vb 5 h (o++(a++i))
 have g:=O;rw[Zn]at g;have s:=L;simp only[pc,ZF]at s;simp only[Xo,Xs,reduceIte,Nat.reduceEqDiff,Nat.reduceLeDiff,Nat.reduceAdd,Zw,x118,P.len,Q.len,U,V,W];have z:=fun h=>k6.chunks (h:=h)
 have C:(List.map (fun x=>List.map DL.p x) o).length=o.length:=by simp
 have q:=DW o a;simp only[pc]at q;simp only[Xo,Xs,reduceIte,Nat.reduceEqDiff,Nat.reduceLeDiff,s,k2,k3,k4,M,z,X,Y,Z,f6,C,q,N.len];simp only[pc]at g J I;rw[g];simp only[Xo,Xs,reduceIte,Nat.reduceEqDiff,beq_self_eq_true,m2,J,I,ZP,Zf]
theorem funId {B:Xq}(g:Std B):FW B 119 id where
 md:=rfl
 fF:=rfl
 fA:=fun f=>by show(bif Nat.blt _ bF then f++[]else _)=f;rw[ZJ];rfl
 ret:=fun{c y} e i=>by
  obtain⟨n,a,d,b,rfl⟩:=e.len;refine⟨_,Xv.of (g.Wa _ _ rfl) (XT.of fun K n=> ?_),e⟩;simp only[Xo,Xs,reduceIte,Nat.reduceEqDiff,Nat.reduceLeDiff,Nat.reduceAdd,x119]
 sq:=fun h=>h
theorem JR {B:Xq}(b:Std B):FW B 104 (fun x=> -x) where
 md:=rfl
 fF:=rfl
 fA:=fun a=>by show(bif Nat.blt _ bF then a++[]else _)=a;rw[ZJ];rfl
 ret:=fun c d=>js b c d
 sq:=fun h=>h.neg
theorem Hd (a:I'):mE id a=a:=by simp[mE]
theorem Eh (a:I'):mE (fun x=> -x) a=WE a:=by
 simp[mE,WE,X2,Rat.neg_mul,Rat.one_mul]
theorem eC {B:Xq}(b:Std B){g lq:PL}{c d:I'}(k:PQ g c)(l:PQ lq d)(i:Sz c)(j:Sz d)(m:c.length<400000)(n:d.length<400000):
  ∃a,Xv B 68 [.one g,.one lq] (.one (.Xl a))/\X6 a (X8 c d):=by
 obtain⟨a,h,f⟩:=jQ b (funId b) k l i j m n;rw[Hd]at f;refine⟨_,Xv.of (b.Wa _ _ rfl) ((h.Xk.and b.Xk).mono fun E K ⟨e1,e⟩=> ?_),f⟩;simp only[Xo,Xs,reduceIte,Nat.reduceEqDiff,Nat.reduceLeDiff,Nat.reduceAdd,x68,e,X3,e1]
theorem ez {B:Xq}(b:Std B){lp f:PL}{ts c:I'}(j:PQ lp ts)(k:PQ f c)(h:Sz ts)(i:Sz c)(l:ts.length<400000)(m:c.length<400000):
  ∃a,Xv B 67 [.one lp,.one f] (.one (.Xl a))/\X6 a (X8 ts (WE c)):=by
 obtain⟨a,g,e⟩:=jQ b (JR b) j k h i l m;rw[Eh]at e;refine⟨_,Xv.of (b.Wa _ _ rfl) ((g.Xk.and b.Xk).mono fun E K ⟨e1,d⟩=> ?_),e⟩;simp only[Xo,Xs,reduceIte,Nat.reduceEqDiff,Nat.reduceLeDiff,Nat.reduceAdd,x67,d,X3,e1]
theorem vc (c:N'):Wi (c.map DL.p)=true:=by
 induction c with
 |nil=>rfl
 |cons a c b=>exact b
theorem X0 (m:P'):Wi (Xu m)=true:=by rw[<-Wj];exact vc _
theorem VM {a:Type}(G l:List a)(n:Nat):(G++l)[G.length+n]? =l[n]? :=by
 rw[ZZ (Nat.le_add_right _ _),Nat.add_sub_cancel_left]
theorem V4 {a:Type}(G l:List a)(n:Nat)(x:a):(G++l).set (G.length+n) x=G++l.set n x:=by
 rw[List.set_append_right _ _ (Nat.le_add_right _ _),Nat.add_sub_cancel_left]
inductive dG (E:Xa)(c:N')(m:P'):Z'->Z'->Prop
 |nil:dG E c m [] []
 |cons {x y z u r1 r2 r3 r4:PL} {k:P'} {es os:Z'} (hk:XA k) (hs:XA (Xg m k)) (h1:E.pure 130 [.agg (mo m),.agg (mo k)]=some (.Wd [.agg (mo (Xg m k)),.one (La0 0)]))
   (h2:E.pure 64 [.agg c,.agg [x,y,z,u]]=some (.agg [r1,r2,r3,r4])) (h:dG E c m es os):dG E c m ((x::y::z::u::mo k)::es) ((r1::r2::r3::r4::mo (Xg m k))::os)
theorem jv {B:Xq}(j:Std B){c:N'}{z:Rat}(p:Rw c z)(u:Sq z){m:P'}(s:XA m):∀{l:Z'} {i:I'},X6 l i->Sz i->(∀t∈i,XA (Xg m t.2))->
  ∃f,X6 f (XD z m i)/\XT B fun E _=>dG E c m l f
 |_,_,.nil,_,_=>⟨[],.nil,XT.of fun _ _=>.nil⟩
 |_,_,.cons (x:=d) (y:=t) k h,hs,ho=>by
  obtain⟨f,w,A⟩:=jv j p u s h hs.tail (fun t k=>ho t (Za _ k));have g:=ho t (Zc ..);obtain⟨n,a,d,b,rfl,q,r⟩:=k;obtain⟨e,C,o⟩:=OY j p q u hs.head;have D:=fU j s r g;obtain⟨I,F,H,G,rfl⟩:=o.len;exact⟨_,.cons (Vn.mk o g) w,(A.and (C.Xk.and D.Xk)).mono fun E K ⟨e1,e2,v⟩=>.cons r g v e2 e1⟩
abbrev aH (c1 c2 c3 c4:PL):Xx:=⟨false,0,4,[[.p c1,.p c2,.p c3,.p c4]],false,48⟩
abbrev dJ (m:P'):Xx:=⟨false,0,8,[Xu m],false,73⟩
abbrev Rp (v:Nat)(o:Z'):Xx:=⟨false,v,12,pc o,false,75⟩
theorem pM {E:Xa}{K k v i:Nat}{c1 c2 c3 c4 e x y z u f g j l:PL}{m a:P'}{b o:Z'}(d:E.mode=md)(N:Sl e b)(V:b.length<1000000)(W:o.length<1000000)(H:XA m)(F:XA a)(n:b[i]? =some (x::y::z::u::mo a))(I:XA (Xg m a))
  (B:E.pure 130 [.agg (mo m),.agg (mo a)]=some (.Wd [.agg (mo (Xg m a)),.one (La0 0)])) (C:E.pure 64 [.agg [c1,c2,c3,c4],.agg [x,y,z,u]]=some (.agg [f,g,j,l])) (G:V'):
  ∃r,Xb E K 0 [3,4,8,19,20,21] x171_1 (k+1) ⟨[(3,.one (.ptr 0 0 0 0)),(4,.one (.ptr 1 0 0 0)),(8,.one (.own 2 v 0 o.length)),(19,La4 e),(20,La1 b.length),(21,La1 i)],aH c1 c2 c3 c4::dJ m::Rp v o::G⟩=
   Xb E K 0 [3,4,8,19,20,21] x171_1 k ⟨[(3,.one (.ptr 0 0 0 0)),(4,.one (.ptr 1 0 0 0)),(8,.one (.own 2 (v+1) 0 (o++[f::g::j::l::mo (Xg m a)]).length)),(19,La4 e),(20,La1 b.length),(21,La1 (i+1))],aH c1 c2 c3 c4::dJ m::Rp (v+1) (o++[f::g::j::l::mo (Xg m a)])::r⟩:=by
 have c:i<b.length:=(Zg.mp n).1;have M:=H.1;have q:=F.1;have s:=I.1;have Q:(Xu m).take 8=Xu m:=Ze (by rw[Xc];omega);have U:(Xu m).drop 8=[]:=Zo (by rw[Xc];omega);have P:(Xu a).take 8=Xu a:=Ze (by rw[Xc];omega);have T:(Xu a).drop 8=[]:=Zo (by rw[Xc];omega);have O:(Xu (Xg m a)).take 8=Xu (Xg m a):=Ze (by rw[Xc];omega);have S:(Xu (Xg m a)).drop 8=[]:=Zo (by rw[Xc];omega);have J:=fun(D:HF) (L:IntKind)=>N.idx (h:=D) (k:=L) (sz:=12) n (by simp[XI,q])
 have t:Xd .i64 (.ofNat (i+1))=.ofNat (i+1):=wrap_i64 (by omega);have w:(o.length+1)*128<=lim:=by unfold lim;omega
 have A:o.length+1<=9223372036854775807:=by omega
 have w1:=X0 m;have X:=X0 a;have R:=X0 (Xg m a);apply Exists.intro;rw[Xb];simp+decide only[Xo,Xs,VD,Vv,reduceIte,Nat.reduceEqDiff,Nat.reduceLeDiff,Nat.reduceAdd,x171_1,c,J,Wj,Xc,M,q,s,Q,P,O,Wc,Wg,d,X3,VM,V4,Zp,Zn,B,C,t,w,A,R,WB,VR];rfl
theorem AP {E:Xa}{K:Nat}{c1 c2 c3 c4 s:PL}{m:P'}{a:Z'}(q:E.mode=md)(T:Sl s a)(I:a.length<1000000)(J:XA m):∀{rest b:Z'},dG E [c1,c2,c3,c4] m rest b->∀(i k v:Nat) (o:Z') (G:V'),a.drop i=rest->i+rest.length=a.length->o.length=i->rest.length<k->
  ∃c f e,Xb E K 0 [3,4,8,19,20,21] x171_1 k ⟨[(3,.one (.ptr 0 0 0 0)),(4,.one (.ptr 1 0 0 0)),(8,.one (.own 2 v 0 o.length)),(19,La4 s),(20,La1 a.length),(21,La1 i)],aH c1 c2 c3 c4::dJ m::Rp v o::G⟩=
   some (.exit 0,⟨c,aH c1 c2 c3 c4::dJ m::Rp e (o++b)::f⟩)/\Xi c 8=some (.one (.own 2 e 0 (o++b).length)):=by
 intro rest b h;induction h with
 |nil=>
  intro i k v o G w j L A;rcases k with _|k;omega;have n:¬i<a.length:=by simp at j;omega
  have :∃c,Xb E K 0 [3,4,8,19,20,21] x171_1 (k+1) ⟨[(3,.one (.ptr 0 0 0 0)),(4,.one (.ptr 1 0 0 0)),(8,.one (.own 2 v 0 o.length)),(19,La4 s),(20,La1 a.length),(21,La1 i)],aH c1 c2 c3 c4::dJ m::Rp v o::G⟩=
   some (.exit 0,⟨c,aH c1 c2 c3 c4::dJ m::Rp v o::G⟩)/\Xi c 8=some (.one (.own 2 v 0 o.length)):=by
   apply VW
   ·rw[Xb];simp only[Xo,Xs,reduceIte,Nat.reduceEqDiff,x171_1,n];rfl
   ·simp only[Xo,reduceIte,Nat.reduceEqDiff]
  obtain⟨c,g,d⟩:=this;exact⟨c,G,v,by rw[ZJ];exact g,by rw[ZJ];exact d⟩
 |@cons x y z u P Q R S O U V A M F H h N=>
  intro i k v o G w j L l;rcases k with _|k;omega;simp only[Zj]at j l;obtain⟨D,C⟩:=Xh w;obtain⟨B,g⟩:=pM (K:=K) (k:=k) (v:=v) (c1:=c1) (c2:=c2) (c3:=c3) (c4:=c4) (o:=o) q T I (by omega) J A D M F H G;obtain⟨c,f,e,d,t⟩:=N (i+1) k (v+1) (o++[P::Q::R::S::mo (Xg m O)]) B C (by omega) (by simp;omega) (by omega);rw[Zp,ZW]at d t;exact⟨c,f,e,g.trans d,t⟩
theorem th {B:Xq}(i:Std B){c:N'}{z:Rat}(l:Rw c z)(G:Sq z)(h0:z≠0){m:P'}(o:XA m){v:PL}{g:I'}(j:PQ v g)(F:Sz g)(D:∀t∈g,XA (Xg m t.2))(O:g.length<1000000):
  ∃e,Xv B 171 [.agg c,.agg (mo m),.one v] (.Wd [.one (.Xl e),.one (La0 0)])/\X6 e (XD z m g):=by
 obtain⟨k,w,j⟩:=j;have M:=j.length;obtain⟨e,A,C⟩:=jv i l G o j F D;have p:=NY i l;have I:=vW h0;obtain⟨n,a,d,b,rfl⟩:=l.len;refine⟨e,Xv.of (i.Wa _ _ rfl) ((C.and (p.Xk.and (i.Xk.and (XT.ge (k.length+1))))).mono fun E K ⟨e1,e2,f,N⟩=> ?_),A⟩;obtain⟨L,J,Q,q,r⟩:=AP (K:=K) f w (by omega) o e1 0 K 0 [] [] rfl (by omega) rfl (by omega);rw[ZB]at q r;have H:=o.1;have P:(Xu m).take 8=Xu m:=Ze (by rw[Xc];omega);have x:128*k.length<=lim:=by unfold lim;omega
 have y:k.length<=9223372036854775807:=by omega
 have u:=WT e (Zf _);have s:=fun h=>Vb 5 h e
 simp only[Zr,aH,dJ,Rp,pc,ZF]at q r u s;simp only[Xo,Xs,reduceIte,Nat.reduceEqDiff,Nat.reduceLeDiff,Nat.reduceAdd,Zw,x171,w.len,f,X3,e2,I,Wj,Xc,H,x,y,q,r,u,s,ZP,Zf]
