/- Reference: Rest, Spair. -/
import Derived.Test.YtidginchkjhobaaGreatMade
set_option maxHeartbeats 16000000
set_option maxRecDepth 100000
namespace Go.Proofs.YtidginchkjhobaaGreat
open Go.Ev Go.Num
theorem yC {B:Xs}(b:Std B){d L c q r e:PL}(h:Xu B 109 [.one d,.one L,.one c] (.agg [q,r,e])):Xu B 59 [.one d,.one L,.one c] (.one r):=by
 refine Xu.of (b.Wa _ _ rfl) ((h.Xk.and b.Xk).mono fun E K ⟨e1,a⟩=> ?_);simp(decide:=true)only[Xo,Xr,Vx,reduceIte,Nat.reduceAdd,x59,a,X4,e1]
def G8 (s:Qm)(a:Z')(t:Qm)(b:Z'):Z':=
 Wh (XG (XZ (1,XJ s.2 t.2) s).1 (XZ (1,XJ s.2 t.2) s).2 a) (Wu (XG (XZ (1,XJ s.2 t.2) t).1 (XZ (1,XJ s.2 t.2) t).2 b))
theorem uv {B:Xs}(g:Std B){Q R F:PL}{o:M'}(T:TR F o)(P:Vt o)(k:o.length<1000000)(hv:Xu B 22 [.one F] (.one (.bool true))){a b:Z'}(N:PQ Q a)(O:PQ R b)(l1:a.length<100000)(l2:b.length<100000){s t:Qm}(hs:XR o a=some s)(ht:XR o b=some t)
  (qs:Sq s.1) (qt:Sq t.1) (s0:s.1≠0) (t0:t.1≠0) (za:Sz a) (zb:Sz b) (oa:∀u∈a,XD (Xg (XZ (1,XJ s.2 t.2) s).2 u.2)) (ob:∀u∈b,XD (Xg (XZ (1,XJ s.2 t.2) t).2 u.2)) (q1:Sq (XZ (1,XJ s.2 t.2) s).1) (q2:Sq (XZ (1,XJ s.2 t.2) t).1) (n1:(XZ (1,XJ s.2 t.2) s).1≠0) (n2:(XZ (1,XJ s.2 t.2) t).1≠0)
  (z1:Sz (XG (XZ (1,XJ s.2 t.2) s).1 (XZ (1,XJ s.2 t.2) s).2 a)) (z2:Sz (XG (XZ (1,XJ s.2 t.2) t).1 (XZ (1,XJ s.2 t.2) t).2 b)):
  ∃r,Xu B 58 [.one Q,.one R,.one F] (.X9 [.one (.Xn r),.one (LA 0)])/\X5 r (G8 s a t b):=by
 obtain⟨c,b1,k1,h⟩:=VU g T P k N l1;obtain⟨d,b2,k3,i⟩:=VU g T P k O l2;simp only[hs]at h;simp only[ht]at i;obtain⟨rfl,h⟩:=h;obtain⟨rfl,i⟩:=i;have l:=h.OK;have mt:=i.OK;have hL:=ig g l mt;have S:=bO l mt;obtain⟨w,w1,U⟩:=Rm g (x:=.ofNat 1) (by unfold DE;decide);obtain⟨q,v,y,A,rfl⟩:=U.len;have C:W0 (.bool q::v::.bool y::A::mo (XJ s.2 t.2)) ((1:Rat),XJ s.2 t.2):=⟨q,v,y,A,rfl,U,S⟩;have n:Sq (1:Rat):=Sq.int (z:=1) (by decide);have Y:Wn s.2 (XJ s.2 t.2)=true:=Tu _ _ (l.1.trans mt.1.symm);have Z:Wn t.2 (XJ s.2 t.2)=true:=Tt _ _ (l.1.trans mt.1.symm);obtain⟨e,v1,I⟩:=du g C h n qs s0 Y;obtain⟨f,v3,J⟩:=du g C i n qt t0 Z;obtain⟨o1,y1,y2⟩:=Oy g I q1 n1 N za oa (by omega);obtain⟨o2,y3,y4⟩:=Oy g J q2 n2 O zb ob (by omega);obtain⟨r,u1,u2⟩:=SX g (lp:=.Xn o1) (lq:=.Xn o2) ⟨_,.Xn,y2⟩ ⟨_,.Xn,y4⟩ z1 z2 (by unfold XG;rw[ZP];omega) (by unfold XG;rw[ZP];omega);obtain⟨s1,s2,s3,s4,rfl⟩:=h.eight;obtain⟨t1,t2,t3,t4,rfl⟩:=i.eight;obtain⟨e1,e2,e3,e4,rfl⟩:=I.eight;obtain⟨f1,f2,f3,f4,rfl⟩:=J.eight;refine⟨r,Xu.of (g.Wa _ _ rfl) ((hv.Xk.and (k1.Xk.and (k3.Xk.and (w1.Xk.and (hL.Xk.and (v1.Xk.and (v3.Xk.and (y1.Xk.and (y3.Xk.and (u1.Xk.and g.Xk)))))))))).mono fun E K ⟨x0,x1,x2,x3,x4,x5,x6,x7,x8,x9,D⟩=> ?_),u2⟩;have G:=l.1;have H:=mt.1;have L8:=S.1;have L:=I.OK.1;have M:=J.OK.1;have p:∀m:P',m.length=8->(Xw m).take 8=Xw m:=fun m C=>Zd (by rw[Xc];omega)
 have j:∀m:P',m.length=8->(Xw m).drop 8=[]:=fun m C=>Zo (by rw[Xc];omega)
 have V:=p _ G;have W:=p _ H;have X:=p _ L8;have a4:=p _ L;have a5:=p _ M;have c1:=j _ G;have c2:=j _ H;have c3:=j _ L8;have c4:=j _ L;have c5:=j _ M;generalize XZ (1,XJ s.2 t.2) s=ov1 at *;generalize XZ (1,XJ s.2 t.2) t=ov2 at *;generalize XJ s.2 t.2=lc at *;simp(decide:=true)only[Xo,Xr,Vx,reduceIte,Nat.reduceAdd,x58,D,X4,x0,x1,x2,x3,x4,x5,x6,x7,x8,x9,V,W,X,G,H,L8,Wj,Xc,Wb,Wf]
abbrev Gg (L lo:PL)(i j:Nat):List (Nat×DV):=[(0,.one (.p L)),(1,.one (.p lo)),(5,LB i),(6,LB j)]
theorem EO {E:Xa}{K k i j:Nat}(e:E.mode=md){g L p q s:PL}{b:N'}(l:Sl L (Xf b))(r:b[i]? =some p)(m:b[j]? =some q)(v:b.length<1000000)(o:E.pure 58 [.one p,.one q,.one g]=some (.X9 [.one s,.one (LA 10)]))(H:V'):
  Xb E K 0 [0,1,5,6] x24_1 (k+1) ⟨Gg L g i j,H⟩=Xb E K 0 [0,1,5,6] x24_1 k ⟨Gg L g i (j+1),H⟩:=by
 have d:j<b.length:=(Zf.mp m).1;have t:=fun(c:HF) (f:IntKind)=>l.idx (h:=c) (k:=f) (sz:=1) (XY r) rfl
 have u:=fun(c:HF) (f:IntKind)=>l.idx (h:=c) (k:=f) (sz:=1) (XY m) rfl
 have a:=l.len;have n:Xe .i64 (.ofNat (j+1))=.ofNat (j+1):=wrap_i64 (by omega);rw[Xb];simp(decide:=true)only[Xo,Xr,VR,Vx,reduceIte,Nat.reduceEqDiff,Nat.reduceAdd,x24_1,e,X4,a,Xt,d,t,u,o,n]
theorem Jr {E:Xa}{K k i j:Nat}(f:E.mode=md){c L p q s r:PL}{b:N'}(m:Sl L (Xf b))(v:b[i]? =some p)(n:b[j]? =some q)(z:b.length<1000000)(t:E.pure 58 [.one p,.one q,.one c]=some (.X9 [.one s,.one (LA 0)]))(u:E.pure 59 [.one s,.one L,.one c]=some (.one r))(w:Sl r [])(H:V'):
  Xb E K 0 [0,1,5,6] x24_1 (k+1) ⟨Gg L c i j,H⟩=Xb E K 0 [0,1,5,6] x24_1 k ⟨Gg L c i (j+1),H⟩:=by
 have e:j<b.length:=(Zf.mp n).1;have x:=fun(d:HF) (l:IntKind)=>m.idx (h:=d) (k:=l) (sz:=1) (XY v) rfl
 have y:=fun(d:HF) (l:IntKind)=>m.idx (h:=d) (k:=l) (sz:=1) (XY n) rfl
 have a:=m.len;have g:=w.len;have o:Xe .i64 (.ofNat (j+1))=.ofNat (j+1):=wrap_i64 (by omega);rw[Xb];simp(decide:=true)only[Xo,Xr,VR,Vx,reduceIte,Nat.reduceEqDiff,Nat.reduceAdd,x24_1,f,X4,a,Xt,e,x,y,t,u,g,o]
theorem Hi {E:Xa}{K k i j:Nat}(e:E.mode=md){l L p q s r:PL}{b:N'}{o:I'}(m:Sl L (Xf b))(x:b[i]? =some p)(t:b[j]? =some q)(B:b.length<1000000)(u:E.pure 58 [.one p,.one q,.one l]=some (.X9 [.one s,.one (LA 0)]))(v:E.pure 59 [.one s,.one L,.one l]=some (.one r))(y:Sl r o)(w:0<o.length)(H:V'):
  ∃n,Xb E K 0 [0,1,5,6] x24_1 (k+1) ⟨Gg L l i j,H⟩=some (.ret,⟨n,H⟩)/\Xh n 4=some (.one (.p (.bool false))):=by
 have d:j<b.length:=(Zf.mp t).1;have z:=fun(c:HF) (g:IntKind)=>m.idx (h:=c) (k:=g) (sz:=1) (XY x) rfl
 have A:=fun(c:HF) (g:IntKind)=>m.idx (h:=c) (k:=g) (sz:=1) (XY t) rfl
 have a:=m.len;have f:=y.len;apply VO
 ·rw[Xb];simp(decide:=true)only[Xo,Xr,VR,Vx,reduceIte,Nat.reduceEqDiff,Nat.reduceAdd,x24_1,e,X4,a,Xt,d,z,A,u,v,f,w];rfl
 ·simp only[Xo,reduceIte,Nat.reduceEqDiff]
inductive DW (E:Xa)(L lo p:PL):N'->Bool->Prop
 |nil:DW E L lo p [] false
 |zero {q s:PL} {rest:N'} {b:Bool} (h1:E.pure 58 [.one p,.one q,.one lo]=some (.X9 [.one s,.one (LA 10)])) (h:DW E L lo p rest b):DW E L lo p (q::rest) b
 |ok {q s r:PL} {rest:N'} {b:Bool} (h1:E.pure 58 [.one p,.one q,.one lo]=some (.X9 [.one s,.one (LA 0)])) (h2:E.pure 59 [.one s,.one L,.one lo]=some (.one r)) (hr:Sl r []) (h:DW E L lo p rest b):DW E L lo p (q::rest) b
 |bad {q s r:PL} {rest:N'} {es:I'} (h1:E.pure 58 [.one p,.one q,.one lo]=some (.X9 [.one s,.one (LA 0)])) (h2:E.pure 59 [.one s,.one L,.one lo]=some (.one r)) (hr:Sl r es) (he:0<es.length):DW E L lo p (q::rest) true
inductive It (E:Xa)(L lo:PL):N'->Bool->Prop
 |nil:It E L lo [] false
 |next {p:PL} {rest:N'} {b:Bool} (h1:DW E L lo p rest false) (h:It E L lo rest b):It E L lo (p::rest) b
 |stop {p:PL} {rest:N'} (h1:DW E L lo p rest true):It E L lo (p::rest) true
abbrev Lw (L lo:PL)(i:Nat)(b:Bool)(ex:Go.Ev.Ex)(T':List (Nat×DV)):Prop:=(b=false/\ex=.exit 2/\Xh T' 0=some (.one (.p L))/\Xh T' 1=some (.one (.p lo))/\Xh T' 5=some (LB i))\/(b=true/\ex=.ret/\Xh T' 4=some (.one (.p (.bool false))))
theorem Gf {E:Xa}{K:Nat}(c:E.mode=md){x L p:PL}{n:N'}(r:Sl L (Xf n)){i:Nat}(u:n[i]? =some p)(t:n.length<1000000){rest:N'}{b:Bool}(h:DW E L x p rest b):∀(j k:Nat) (H:V'),n.drop j=rest->j+rest.length=n.length->rest.length<k->
  ∃y o,Xb E K 0 [0,1,5,6] x24_1 k ⟨Gg L x i j,H⟩=some (y,⟨o,H⟩)/\Lw L x i b y o:=by
 induction h with
 |nil=>
  intro j k H _ a l;obtain⟨k,rfl⟩:∃d,k=d+1:=⟨k-1,by omega⟩;simp only[Zr,Z0]at a;subst a;have m:=r.len;refine⟨.exit 2,?_⟩;apply VO
  ·rw[Xb];simp only[Xo,Xr,reduceIte,Nat.reduceEqDiff,x24_1,m,Xt,Zv];rfl
  ·exact .inl ⟨rfl,rfl,by simp only[Xo,reduceIte,Nat.reduceEqDiff,and_self]⟩
 |zero f h w=>
  intro j k H g a l;obtain⟨k,rfl⟩:∃d,k=d+1:=⟨k-1,by omega⟩;simp only[Zi]at a l;obtain⟨e,q⟩:=Xi g;rw[EO c r u e t f H];exact w (j+1) k H q (by omega) (by omega)
 |ok f s v h w=>
  intro j k H g a l;obtain⟨k,rfl⟩:∃d,k=d+1:=⟨k-1,by omega⟩;simp only[Zi]at a l;obtain⟨e,q⟩:=Xi g;rw[Jr c r u e t f s v H];exact w (j+1) k H q (by omega) (by omega)
 |bad f s v B=>
  intro j k H g a l;obtain⟨k,rfl⟩:∃d,k=d+1:=⟨k-1,by omega⟩;obtain⟨e,q⟩:=Xi g;obtain⟨o,z,A⟩:=Hi (K:=K) (k:=k) c r u e t f s v B H;exact⟨.ret,o,z,.inr ⟨rfl,rfl,A⟩⟩
abbrev K8 (L lo:PL)(i:Nat):List (Nat×DV):=[(0,.one (.p L)),(1,.one (.p lo)),(5,LB i)]
theorem Hh {E:Xa}{K:Nat}(j:E.mode=md){z L:PL}{e:N'}(m:Sl L (Xf e))(y:e.length<1000000)(J:e.length<K){rest:N'}{b:Bool}(h:It E L z rest b):∀(i k:Nat) (H:V'),e.drop i=rest->i+rest.length=e.length->rest.length<k->
  ∃c n,Xb E K 0 [0,1,5] x24_2 k ⟨K8 L z i,H⟩=some (c,⟨n,H⟩)/\((b=false/\c=.exit 0)\/(b=true/\c=.ret/\Xh n 4=some (.one (.p (.bool false))))):=by
 induction h with
 |nil=>
  intro i k H _ f q;obtain⟨k,rfl⟩:∃l,k=l+1:=⟨k-1,by omega⟩;simp only[Zr,Z0]at f;subst f;have a:=m.len;refine⟨.exit 0,?_⟩;apply VO
  ·rw[Xb];simp only[Xo,Xr,reduceIte,Nat.reduceEqDiff,x24_2,a,Xt,Zv];rfl
  ·exact .inl ⟨rfl,rfl⟩
 |@next p rest b u h C=>
  intro i k H w f q;obtain⟨k,rfl⟩:∃l,k=l+1:=⟨k-1,by omega⟩;simp only[Zi]at f q;obtain⟨t,o⟩:=Xi w;have d:i<e.length:=by omega
  have a:=m.len;have r:Xe .i64 (.ofNat (i+1))=.ofNat (i+1):=wrap_i64 (by omega);obtain⟨c,x,g,s⟩:=Gf (K:=K) j m t y u (i+1) K H o (by omega) (by omega);rcases s with⟨-,rfl,D,F,I⟩|⟨v,-,-⟩
  ·obtain⟨c,n,A,B⟩:=C (i+1) k H o (by omega) (by omega);refine⟨c,n,?_,B⟩;rw[<-A,Xb];simp only[Gg]at g;simp(decide:=true)only[Xo,Xr,reduceIte,x24_2,a,Xt,d,r,g,D,F,I]
  ·cases v
 |@stop p rest u=>
  intro i k H w f q;obtain⟨k,rfl⟩:∃l,k=l+1:=⟨k-1,by omega⟩;simp only[Zi]at f q;obtain⟨t,o⟩:=Xi w;have d:i<e.length:=by omega
  have a:=m.len;have r:Xe .i64 (.ofNat (i+1))=.ofNat (i+1):=wrap_i64 (by omega);obtain⟨c,x,g,s⟩:=Gf (K:=K) j m t y u (i+1) K H o (by omega) (by omega);rcases s with⟨v,-⟩|⟨-,rfl,G⟩
  ·cases v
  ·refine⟨.ret,x,?_,.inr ⟨rfl,rfl,G⟩⟩;rw[Xb];simp only[Gg]at g;simp(decide:=true)only[Xo,Xr,reduceIte,x24_2,a,Xt,d,r,g]
theorem nV {B:Xs}(f:Std B){e L:PL}{c:N'}(l:Sl L (Xf c))(j:c.length<1000000)(k:Xu B 22 [.one e] (.one (.bool true))){b:Bool}(h:XS B fun E _=>It E L e c b):Xu B 24 [.one L,.one e] (.one (.bool (!b))):=by
 refine Xu.of (f.Wa _ _ rfl) ((h.and (k.Xk.and (f.Xk.and (XS.ge (c.length+1))))).mono fun E K ⟨g,e1,a,p⟩=> ?_);obtain⟨o,n,d,i⟩:=Hh (K:=K) a l j (by omega) g 0 K [] rfl (by omega) (by omega);simp only[K8]at d;rcases i with⟨rfl,rfl⟩|⟨rfl,rfl,m⟩
 ·simp(decide:=true)only[Xo,Xr,Vx,reduceIte,Nat.reduceAdd,x24,a,X4,e1,d]
 ·simp(decide:=true)only[Xo,Xr,Vx,reduceIte,Nat.reduceAdd,x24,a,X4,e1,d,m]
abbrev ib (n:Bool)(l:PL):Xx:=⟨false,0,2,[[.p (.bool n),.p l]],false,46⟩
theorem wu {E:Xa}{K:Nat}{n:Bool}{o q:PL}{b:P'}(c:Us o b)(s:Us q b)(u:b.length<10000000000000):∀(d i k:Nat),i+d=b.length->d<k->
  ∃e,Xb E K 0 [2,3,5] x174_1 k ⟨[(2,.one (.ptr 0 0 0 0)),(3,.one (.ptr 1 0 0 0)),(5,LB i)],[ib n o,ib n q]⟩=some (.exit 0,⟨e,[ib n o,ib n q]⟩)
 |0,i,k,hi,hk=>by
  obtain⟨k,rfl⟩:∃l,k=l+1:=⟨k-1,by omega⟩;rw[Z0]at hi;subst hi;have a:=c.len;apply Exists.intro;rw[Xb];simp only[Xo,Xr,reduceIte,Nat.reduceEqDiff,Nat.reduceLeDiff,x174_1,ib,a,Zv];rfl
 |d+1,i,k,hi,hk=>by
  obtain⟨k,rfl⟩:∃l,k=l+1:=⟨k-1,by omega⟩;obtain⟨e,g⟩:=wu (E:=E) (K:=K) (n:=n) c s u d (i+1) k (by omega) (by omega);have r:b[i]? =some b[i]:=Zg (by omega);have a:=c.len;have j:i<b.length:=by omega
  have v:=fun(f:HF) (m:IntKind)=>c.idx (h:=f) (k:=m) r
  have w:=fun(f:HF) (m:IntKind)=>s.idx (h:=f) (k:=m) r
  have t:Xe .i64 (.ofNat (i+1))=.ofNat (i+1):=wrap_i64 (by omega);refine⟨e,?_⟩;rw[Xb];simp(decide:=true)only[Xo,Xr,reduceIte,Nat.reduceAdd,x174_1,ib,a,j,v,w,t];exact g
theorem lI {B:Xs}(f:Std B){c d:N'}{z:Int}(i:Tw c z)(j:Tw d z)(p:(Xd z.natAbs).length<2000000000000):Xu B 174 [.agg c,.agg d] (.one (.bool true)):=by
 obtain⟨q,rfl,a⟩:=i;obtain⟨r,rfl,e⟩:=j;refine Xu.of (f.Wa _ _ rfl) ((XS.ge ((Xd z.natAbs).length+1)).mono fun E K o=> ?_);obtain⟨m,g⟩:=wu (E:=E) (K:=K) (n:=decide (z<0)) a e (by omega) (Xd z.natAbs).length 0 K (by omega) (by omega);have k:=Us.len a;have l:=Us.len e;have h:∀b:Bool,(b==b)=true:=fun b=>beq_self_eq_true b
 simp only[ib]at g;generalize decide (z<0)=n at *;simp(decide:=true)only[Xo,Xr,reduceIte,Nat.reduceAdd,x174,k,l,g,h]
theorem yv {B:Xs}(a:Std B){c d:N'}{x:Rat}(l:Ri c x)(o:Ri d x)(f:Sq x):Xu B 149 [.agg c,.agg d] (.one (.bool true)):=by
 obtain⟨n,m,r,e,rfl,h,i⟩:=l;obtain⟨u,t,g,s,rfl,j,k⟩:=o;have p:=lI a h j (by have:=f.1;omega);have q:=lI a i k (by have:=f.2;simp only[Z9];omega);refine Xu.of (a.Wa _ _ rfl) ((p.Xk.and (q.Xk.and a.Xk)).mono fun E K ⟨e1,e2,b⟩=> ?_);simp(decide:=true)only[Xo,Xr,Vx,reduceIte,Nat.reduceAdd,x149,b,X4,e1,e2]
theorem yu {B:Xs}(f:Std B){c d:N'}{t:Qm}(l:W0 c t)(m:W0 d t)(n:Sq t.1):Xu B 111 [.agg c,.agg d] (.one (.bool true)):=by
 obtain⟨a,b,c,e,rfl,i,g⟩:=l;obtain⟨r,s,u,v,rfl,j,-⟩:=m;have o:=yv f i j n;have k:=UT g.1 g.1;have p:=g.1;have q:(Xw t.2).take 8=Xw t.2:=Zd (by rw[Xc];omega);refine Xu.of (f.Wa _ _ rfl) ((o.Xk.and f.Xk).mono fun E K ⟨e1,h⟩=> ?_);simp(decide:=true)only[Xo,Xr,Vx,reduceIte,Nat.reduceAdd,x111,h,X4,e1,k,q,p,Wj,Xc]
inductive DB (E:Xa):I'->I'->Prop
 |nil:DB E [] []
 |cons {c d:N'} {cs ds:I'} (hc:∃a b e f m,c=a::b::e::f::mo m/\m.length=8) (hd:∃a b e f m,d=a::b::e::f::mo m/\m.length=8) (h1:E.pure 111 [.agg c,.agg d]=some (.one (.bool true))) (h:DB E cs ds):DB E (c::cs) (d::ds)
theorem qJ {B:Xs}(l:Std B):∀{j g:I'} {i:Z'},X5 j i->X5 g i->Sz i->XS B fun E _=>DB E j g
 |[],g,_,.nil,h,_=>by cases h;exact XS.of fun _ _=>.nil
 |c::j,g,t::i,.cons h1 h,k,hs=>by
  cases k with
  |@cons d _ g _ n k=>
   have e1:=yu l h1 n (hs t (Zc ..));obtain⟨a,b,e,f,rfl,-,m⟩:=h1;obtain⟨p,q,r,s,rfl,-,-⟩:=n;exact((qJ l h k fun u o=>hs u (Zb _ o)).and e1.Xk).mono fun E K ⟨x,y⟩=>.cons ⟨_,_,_,_,_,rfl,m.1⟩ ⟨_,_,_,_,_,rfl,m.1⟩ y x
theorem Es {E:Xa}{K:Nat}(t:E.mode=md){B C:PL}{a x:I'}(w:Sl B a)(Q:Sl C x)(Z:a.length<1000000):∀{e f:I'},DB E e f->∀(i k:Nat),a.drop i=e->x.drop i=f->i+e.length=a.length->e.length<k->
  ∃l,Xb E K 0 [0,1,5] x57_1 k ⟨[(0,.one (.p B)),(1,.one (.p C)),(5,LB i)],[]⟩=some (.exit 0,⟨l,[]⟩):=by
 intro e f h;induction h with
 |nil=>
  intro i k _ _ j y;obtain⟨k,rfl⟩:∃u,k=u+1:=⟨k-1,by omega⟩;simp only[Zr,Z0]at j;subst j;have b:=w.len;apply Exists.intro;rw[Xb];simp only[Xo,Xr,reduceIte,Nat.reduceEqDiff,x57_1,b,Zv];rfl
 |@cons c d e f L M J h O=>
  intro i k o q j y;obtain⟨k,rfl⟩:∃u,k=u+1:=⟨k-1,by omega⟩;simp only[Zi]at j y;obtain⟨H,D⟩:=Xi o;obtain⟨I,F⟩:=Xi q;obtain⟨l,g⟩:=O (i+1) k D F (by omega) (by omega);obtain⟨T,U,c3,c4,m,rfl,z⟩:=L;obtain⟨V,W,X,Y,n,rfl,A⟩:=M;have b:=w.len;have s:i<a.length:=by omega
  have N:=fun(r:HF) (v:IntKind)=>w.idx (h:=r) (k:=v) (sz:=12) H (by simp[XF,z])
  have P:=fun(r:HF) (v:IntKind)=>Q.idx (h:=r) (k:=v) (sz:=12) I (by simp[XF,A])
  have G:Xe .i64 (.ofNat (i+1))=.ofNat (i+1):=wrap_i64 (by omega);have R:(Xw m).take 8=Xw m:=Zd (by rw[Xc];omega);have S:(Xw n).take 8=Xw n:=Zd (by rw[Xc];omega);refine⟨l,?_⟩;rw[Xb];simp(decide:=true)only[Xo,Xr,Vx,reduceIte,Nat.reduceAdd,x57_1,t,X4,b,s,N,P,G,R,S,z,A,J,Wj,Xc,Wb,Wf];exact g
theorem Bg {B:Xs}(b:Std B){i j:PL}{a:Z'}(p:PQ i a)(q:PQ j a)(r:Sz a)(v:a.length<1000000):Xu B 57 [.one i,.one j] (.one (.bool true)):=by
 obtain⟨o,m,k⟩:=p;obtain⟨t,n,l⟩:=q;have d:=k.length;have e:=l.length;refine Xu.of (b.Wa _ _ rfl) (((qJ b k l r).and (b.Xk.and (XS.ge (a.length+1)))).mono fun E K ⟨e1,c,u⟩=> ?_);obtain⟨s,g⟩:=Es (K:=K) c m n (by omega) e1 0 K rfl rfl (by omega) (by omega);have f:=m.len;have h:=n.len;rw[d]at f;rw[e]at h;simp(decide:=true)only[Xo,Xr,reduceIte,Nat.reduceAdd,x57,f,h,g]
inductive DD (E:Xa):N'->N'->Prop
 |nil:DD E [] []
 |cons {p q:PL} {ps qs:N'} (h1:E.pure 57 [.one p,.one q]=some (.one (.bool true))) (h:DD E ps qs):DD E (p::ps) (q::qs)
theorem qK {B:Xs}(e:Std B):∀{d g:N'} {c:S'},VS d c->VS g c->(∀f∈c,Sz f/\f.length<1000000)->XS B fun E _=>DD E d g
 |[],_,_,.nil,h,_=>by cases h;exact XS.of fun _ _=>.nil
 |p::d,_,f::c,.cons h1 h,k,hs=>by
  cases k with
  |cons j k=>
   obtain⟨a,b⟩:=hs f (Zc ..);exact((qK e h k fun u i=>hs u (Zb _ i)).and (Bg e h1 j a b).Xk).mono fun E K ⟨x,y⟩=>.cons y x
theorem Et {E:Xa}{K:Nat}(o:E.mode=md){w x:PL}{a u:N'}(t:Sl w (Xf a))(I:Sl x (Xf u))(J:a.length<1000000):∀{c e:N'},DD E c e->∀(i k:Nat),a.drop i=c->u.drop i=e->i+c.length=a.length->c.length<k->
  ∃f,Xb E K 0 [0,1,5] x21_1 k ⟨[(0,.one (.p w)),(1,.one (.p x)),(5,LB i)],[]⟩=some (.exit 0,⟨f,[]⟩):=by
 intro c e h;induction h with
 |nil=>
  intro i k _ _ d v;obtain⟨k,rfl⟩:∃r,k=r+1:=⟨k-1,by omega⟩;simp only[Zr,Z0]at d;subst d;have b:=t.len;apply Exists.intro;rw[Xb];simp only[Xo,Xr,reduceIte,Nat.reduceEqDiff,x21_1,b,Xt,Zv];rfl
 |@cons p q c e D h G=>
  intro i k j l d v;obtain⟨k,rfl⟩:∃r,k=r+1:=⟨k-1,by omega⟩;simp only[Zi]at d v;obtain⟨B,y⟩:=Xi j;obtain⟨C,z⟩:=Xi l;obtain⟨f,g⟩:=G (i+1) k y z (by omega) (by omega);have b:=t.len;have n:i<a.length:=by omega
  have F:=fun(m:HF) (s:IntKind)=>t.idx (h:=m) (k:=s) (sz:=1) (XY B) rfl
  have H:=fun(m:HF) (s:IntKind)=>I.idx (h:=m) (k:=s) (sz:=1) (XY C) rfl
  have A:Xe .i64 (.ofNat (i+1))=.ofNat (i+1):=wrap_i64 (by omega);refine⟨f,?_⟩;rw[Xb];simp(decide:=true)only[Xo,Xr,Vx,reduceIte,Nat.reduceAdd,x21_1,o,X4,b,Xt,n,F,H,A,D];exact g
theorem Bh {B:Xs}(c:Std B){n o:PL}{a i:N'}{b:S'}(p:Sl n (Xf a))(q:Sl o (Xf i))(j:VS a b)(k:VS i b)(r:∀f∈b,Sz f/\f.length<1000000)(u:b.length<1000000):Xu B 21 [.one n,.one o] (.one (.bool true)):=by
 have e:=j.length;have h:=k.length;refine Xu.of (c.Wa _ _ rfl) (((qK c j k r).and (c.Xk.and (XS.ge (b.length+1)))).mono fun E K ⟨e1,d,t⟩=> ?_);obtain⟨s,g⟩:=Et (K:=K) d p q (by omega) e1 0 K rfl rfl (by omega) (by omega);have l:=p.len;have m:=q.len;rw[Xt,e]at l;rw[Xt,h]at m;simp(decide:=true)only[Xo,Xr,reduceIte,Nat.reduceAdd,x21,l,m,g]
end Go.Proofs.YtidginchkjhobaaGreat
