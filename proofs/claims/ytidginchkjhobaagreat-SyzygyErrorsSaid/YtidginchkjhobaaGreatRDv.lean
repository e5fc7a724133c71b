/- Reference: equal numbers, terms, polynomials and lists are the same. -/
import Derived.Test.YtidginchkjhobaaGreatMade
set_option maxHeartbeats 16000000
set_option maxRecDepth 100000
namespace Go.Proofs.YtidginchkjhobaaGreat
open Go.Ev Go.Num
abbrev ib (n:Bool)(l:PL):Xz:=⟨false,0,2,[[.p (.bool n),.p l]],false,46⟩
inductive ma:List Qm->List (List Qm)->List (List Qm)->List Qm->Prop
 |nil (acc:List Qm):ma acc [] [] acc
 |cons {acc q f r:List Qm} {qs fs:List (List Qm)} (ha:Sz q) (hb:Sz f) (hz:∀t∈q,t.1≠0/\∀u∈f,XE (Xg t.2 u.2)) (hms:kl f [] q) (l1:q.length<100000) (l2:f.length<1000) (l3:q.length*f.length<900000)
   (s1:Sz acc) (s2:Sz (Ry [] q f)) (n1:acc.length<1000000) (n2:(Ry [] q f).length<1000000) (h:ma (WB acc (Ry [] q f)) qs fs r):ma acc (q::qs) (f::fs) r
theorem ma.length {a r:List Qm}{c b:List (List Qm)}(h:ma a c b r):c.length=b.length:=by
 induction h with
 |nil=>rfl
 |cons _ _ _ _ _ _ _ _ _ _ _ _ d=>simp[d]
inductive Am (E:Xa):PL->List PL->List PL->PL->Prop
 |nil (r:PL):Am E r [] [] r
 |cons {r q l x rf:PL} {o:List (List PL)} {qs ls:List PL} (h1:E.pure 38 [.one q,.one l]=some (.XZ [.one x,.one (.int .i64 (.ofNat 0))])) (h2:E.pure 10 [.one r,.one x]=some (.one (.Xp o))) (h:Am E (.Xp o) qs ls rf):Am E r (q::qs) (l::ls) rf
theorem xz {B:Xs}(k:Std B){a r:List Qm}{l j:List (List Qm)}(h:ma a l j r):∀{c b:List PL} {ra:PL},Ut c l->Ut b j->PQ ra a->∃d,(X1 B fun E _=>Am E ra c b d)/\PQ d r:=by
 induction h with
 |nil a=>
  intro c b ra e f g;cases e;cases f;exact⟨ra,X1.of fun _ _=>.nil ra,g⟩
 |cons q s t i D F G M N H I h u=>
  intro c b ra e f g;cases e with
  |cons J L=>
   cases f with
   |cons n p=>
    obtain⟨x,v,w⟩:=vg k J n q s t i D F G;obtain⟨o,y,z⟩:=Sf k g w M N H I;obtain⟨d,A,C⟩:=u L p (ra:=.Xp o) ⟨_,.Xp,z⟩;exact⟨d,(A.and (v.Xj.and y.Xj)).mono fun E K ⟨m,e1,e2⟩=>.cons e1 e2 m,C⟩
abbrev Ei (Q L:PL)(d:DL)(i:Nat):List (Nat×DV):=[(0,.one (.p Q)),(1,.one (.p L)),(6,.one d),(7,.one (.p (.int .i64 (.ofNat i))))]
theorem uN {E:Xa}{K k:Nat}(d:E.mode=md){Q L q l x:PL}{o:List (List PL)}{i f:List PL}(v:Sl Q (Xf i))(j:Sl L (Xf f))(s:i[0]? =some q)(g:f[0]? =some l)
  (n:E.pure 38 [.one q,.one l]=some (.XZ [.one x,.one (.int .i64 (.ofNat 0))])) (r:E.pure 10 [.one (.Xp []),.one x]=some (.one (.Xp o))):
  Xb E K 0 [0,1,6,7] x79_1 (k+1) ⟨Ei Q L (.own 0 0 0 0) 0,[⟨false,0,12,[],false,75⟩]⟩=Xb E K 0 [0,1,6,7] x79_1 k ⟨Ei Q L (.p (.Xp o)) 1,[⟨true,0,12,[],false,75⟩]⟩:=by
 have c:0<f.length:=(Zb.mp g).1;have t:=fun(b:HF) (e:IntKind)=>v.idx (h:=b) (k:=e) (sz:=1) (XJ s) rfl
 have u:=fun(b:HF) (e:IntKind)=>j.idx (h:=b) (k:=e) (sz:=1) (XJ g) rfl
 have a:=j.len;have m:Xe .i64 (.ofNat 1)=.ofNat 1:=rfl;rw[Xb];simp(decide:=true)only[Xm,Xq,Vm,reduceIte,Nat.reduceAdd,x79_1,d,X5,a,Xr,c,t,u,n,r,m]
theorem uM {E:Xa}{K k i:Nat}(e:E.mode=md){Q L q l x r:PL}{o:List (List PL)}{j b:List PL}(y:Sl Q (Xf j))(m:Sl L (Xf b))(u:j[i]? =some q)(g:b[i]? =some l)(z:b.length<1000000)
  (s:E.pure 38 [.one q,.one l]=some (.XZ [.one x,.one (.int .i64 (.ofNat 0))])) (t:E.pure 10 [.one r,.one x]=some (.one (.Xp o))) (H:List Xz):
  Xb E K 0 [0,1,6,7] x79_1 (k+1) ⟨Ei Q L (.p r) i,H⟩=Xb E K 0 [0,1,6,7] x79_1 k ⟨Ei Q L (.p (.Xp o)) (i+1),H⟩:=by
 have d:i<b.length:=(Zb.mp g).1;have v:=fun(c:HF) (f:IntKind)=>y.idx (h:=c) (k:=f) (sz:=1) (XJ u) rfl
 have w:=fun(c:HF) (f:IntKind)=>m.idx (h:=c) (k:=f) (sz:=1) (XJ g) rfl
 have a:=m.len;have n:Xe .i64 (.ofNat (i+1))=.ofNat (i+1):=wrap_i64 (by omega);rw[Xb];simp(decide:=true)only[Xm,Xq,Vg,Vm,reduceIte,Nat.reduceEqDiff,Nat.reduceAdd,x79_1,e,X5,a,Xr,d,v,w,s,t,n]
theorem CT {E:Xa}{K:Nat}(e:E.mode=md){Q L:PL}{j b:List PL}(B:Sl Q (Xf j))(o:Sl L (Xf b))(y:b.length<1000000){r n:PL}{m d:List PL}(h:Am E r m d n):∀(i k:Nat) (H:List Xz),j.drop i=m->b.drop i=d->i+d.length=b.length->d.length<k->
  ∃g,Xb E K 0 [0,1,6,7] x79_1 k ⟨Ei Q L (.p r) i,H⟩=some (.exit 0,⟨g,H⟩)/\Xh g 6=some (.one (.p n)):=by
 induction h with
 |nil r=>
  intro i k H _ _ c l;obtain⟨k,rfl⟩:∃f,k=f+1:=⟨k-1,by omega⟩;simp only[Zu,Yk]at c;subst c;have a:=o.len;apply VE
  ·rw[Xb];simp only[Xm,Xq,reduceIte,Nat.reduceEqDiff,x79_1,a,Xr,Zx];rfl
  ·simp only[Xm,reduceIte,Nat.reduceEqDiff]
 |cons v w h A=>
  intro i k H z x c l;obtain⟨k,rfl⟩:∃f,k=f+1:=⟨k-1,by omega⟩;simp only[Zi]at c l;obtain⟨t,q⟩:=Xi z;obtain⟨u,s⟩:=Xi x;rw[uM e B o t u y v w H];exact A (i+1) k H q s (by omega) (by omega)
theorem xV {B:Xs}(g:Std B){Q L:PL}{j s:List PL}{l a:List (List Qm)}{r:List Qm}(n:Sl Q (Xf j))(m:Sl L (Xf s))(q:Ut j l)(o:Ut s a)(F:a.length<100000)(h:ma [] l a r):∃e,Xx B 79 [.one Q,.one L] (.XZ [.one e,.one (.int .i64 (.ofNat 0))])/\PQ e r:=by
 have p:l.length=a.length:=h.length;have e1:=q.length;have e2:=o.length;obtain⟨e,x,y⟩:=xz g h q o (ra:=.Xp []) ⟨[],.Xp,.nil⟩;refine⟨e,Xx.of (g.Wa _ _ rfl) ((x.and (g.Xj.and (X1.ge (a.length+2)))).mono fun E K ⟨A,b,D⟩=> ?_),y⟩;have c:=n.len;have d:=m.len;rw[Xr,show j.length=a.length by omega]at c;rw[Xr,e2]at d;cases A with
 |nil=>
  obtain⟨k,rfl⟩:∃k,K=k+1:=⟨K-1,by omega⟩;have z:a.length=0:=by rw[<-e2];rfl
  rw[z]at c d;simp(decide:=true)only[Xm,Xq,reduceIte,Nat.reduceAdd,x79,x79_1,Xb,c,d]
 |cons u v w=>
  obtain⟨k,rfl⟩:∃k,K=k+1:=⟨K-1,by omega⟩;have i:=e2;simp only[Zi]at i;obtain⟨C,f,t⟩:=CT (K:=k+1) b n m (by simp only[Zi];omega) w 1 k [⟨true,0,12,[],false,75⟩] rfl rfl (by simp only[Zi];omega) (by omega);rw[<-uN b n m rfl rfl u v]at f;simp only[Ei]at f;simp(decide:=true)only[Xm,Xq,reduceIte,Nat.reduceAdd,x79,c,d,f,t]
theorem u7 {B:Xs}(b:Std B){p q:PL}(f:Sl p [])(g:Sl q []):Xx B 57 [.one p,.one q] (.one (.bool true)):=by
 have a:=f.len;have c:=g.len;refine Xx.of (b.Wa _ _ rfl) ((b.Xj.and (X1.ge 1)).mono fun E K ⟨e,h⟩=> ?_);obtain⟨k,d⟩:∃k,K=k+1:=⟨K-1,by omega⟩;simp only[Xm,Xq,reduceIte,Nat.reduceEqDiff,Nat.reduceLeDiff,x57,x57_1,a,c];rw[d];simp only[Xb,Xm,Xq,reduceIte,Nat.reduceEqDiff,a,Zx]
theorem xW {B:Xs}(c:Std B){p q:PL}{b ds:List (List PL)}(g:Sl p b)(h:Sl q ds)(a:b.length≠ds.length):Xx B 57 [.one p,.one q] (.one (.bool false)):=by
 have d:=g.len;have e:=h.len;refine Xx.of (c.Wa _ _ rfl) (c.Xj.mono fun E K f=> ?_);simp only[Xm,Xq,reduceIte,Nat.reduceEqDiff,Nat.reduceLeDiff,x57,d,e,a]
theorem u9 {B:Xs}(b:Std B){d L c q r e:PL}(h:Xx B 109 [.one d,.one L,.one c] (.agg [q,r,e])):Xx B 59 [.one d,.one L,.one c] (.one r):=by
 refine Xx.of (b.Wa _ _ rfl) ((h.Xj.and b.Xj).mono fun E K ⟨e1,a⟩=> ?_);simp(decide:=true)only[Xm,Xq,Vm,reduceIte,Nat.reduceAdd,x59,a,X5,e1]
def C5 (s:Qm)(a:List Qm)(t:Qm)(b:List Qm):List Qm:=
 WB (XS (XQ (1,XD s.2 t.2) s).1 (XQ (1,XD s.2 t.2) s).2 a) (U3 (XS (XQ (1,XD s.2 t.2) t).1 (XQ (1,XD s.2 t.2) t).2 b))
theorem ni {B:Xs}(r:Std B){x y i:PL}{o:List (List Int)}(P:SG i o)(G:V3 o)(s:o.length<1000000)(I:Xx B 22 [.one i] (.one (.bool true))){a b:List Qm}(C:PQ x a)(D:PQ y b)(N:a.length<100000)(O:b.length<100000)(h0:a=[]\/b=[]):
  Xx B 58 [.one x,.one y,.one i] (.XZ [.one .XC,.one (.int .i64 (.ofNat 10))]):=by
 have key:∀{l:PL} {f:List Qm},PQ l f->f.length<100000->∃j k p q m e,Xx B 107 [.one l,.one i] (.XZ [.agg (j::k::p::q::mo m),.one (.bool e)])/\m.length=8/\(f=[]->e=false):=fun{l f} H F=>by
  obtain⟨c,e,w,d⟩:=Tr r P G s H F;cases f with
  |nil=>
   simp only[XU]at d;obtain⟨rfl,rfl⟩:=d;exact⟨.bool false,.XC,.bool false,.XC,Tp,false,w,rfl,fun _=>rfl⟩
  |cons t ts=>
   simp only[XU]at d;obtain⟨rfl,d⟩:=d;obtain⟨j,k,p,q,rfl⟩:=d.eight;exact⟨j,k,p,q,_,true,w,d.Nh.1,fun h=>by cases h⟩
 obtain⟨U,V,W,X,m,u,L,z,Q⟩:=key C N;obtain⟨j,k,p,q,n,e,M,A,R⟩:=key D O;have J:u=false\/e=false:=h0.imp Q R;have Y:(Xu m).take 8=Xu m:=Zd (by rw[Xc];omega);have Z:(Xu n).take 8=Xu n:=Zd (by rw[Xc];omega);have S:(Xu m).drop 8=[]:=Zm (by rw[Xc];omega);have T:(Xu n).drop 8=[]:=Zm (by rw[Xc];omega);refine Xx.of (r.Wa _ _ rfl) ((I.Xj.and (L.Xj.and (M.Xj.and r.Xj))).mono fun E K ⟨v,e1,e2,g⟩=> ?_);rcases J with rfl|rfl
 ·cases e<;>simp(decide:=true)only[Xm,Xq,Vm,reduceIte,Nat.reduceAdd,x58,g,X5,v,e1,e2,z,A,Wk,Xc]
 ·cases u<;>simp(decide:=true)only[Xm,Xq,Vm,reduceIte,Nat.reduceAdd,x58,g,X5,v,e1,e2,z,A,Wk,Xc]
theorem qH {B:Xs}(g:Std B){Q R F:PL}{o:List (List Int)}(T:SG F o)(P:V3 o)(k:o.length<1000000)(hv:Xx B 22 [.one F] (.one (.bool true))){a b:List Qm}(N:PQ Q a)(O:PQ R b)(l1:a.length<100000)(l2:b.length<100000){s t:Qm}(hs:XU o a=some s)(ht:XU o b=some t)
  (qs:Sq s.1) (qt:Sq t.1) (s0:s.1≠0) (t0:t.1≠0) (za:Sz a) (zb:Sz b) (oa:∀u∈a,XE (Xg (XQ (1,XD s.2 t.2) s).2 u.2)) (ob:∀u∈b,XE (Xg (XQ (1,XD s.2 t.2) t).2 u.2)) (q1:Sq (XQ (1,XD s.2 t.2) s).1) (q2:Sq (XQ (1,XD s.2 t.2) t).1) (n1:(XQ (1,XD s.2 t.2) s).1≠0) (n2:(XQ (1,XD s.2 t.2) t).1≠0)
  (z1:Sz (XS (XQ (1,XD s.2 t.2) s).1 (XQ (1,XD s.2 t.2) s).2 a)) (z2:Sz (XS (XQ (1,XD s.2 t.2) t).1 (XQ (1,XD s.2 t.2) t).2 b)):
  ∃r,Xx B 58 [.one Q,.one R,.one F] (.XZ [.one (.Xp r),.one (.int .i64 (.ofNat 0))])/\X4 r (C5 s a t b):=by
 obtain⟨c,b1,k1,h⟩:=Tr g T P k N l1;obtain⟨d,b2,k3,i⟩:=Tr g T P k O l2;simp only[hs]at h;simp only[ht]at i;obtain⟨rfl,h⟩:=h;obtain⟨rfl,i⟩:=i;have l:=h.Nh;have mt:=i.Nh;have hL:=ya g l mt;have S:=oy l mt;obtain⟨w,w1,U⟩:=N6 g (x:=.ofNat 1) (by unfold D5;decide);obtain⟨q,v,y,A,rfl⟩:=U.len;have C:W9 (.bool q::v::.bool y::A::mo (XD s.2 t.2)) ((1:Rat),XD s.2 t.2):=⟨q,v,y,A,rfl,U,S⟩;have n:Sq (1:Rat):=Sq.int (z:=1) (by decide);have Y:WO s.2 (XD s.2 t.2)=true:=TD _ _ (l.1.trans mt.1.symm);have Z:WO t.2 (XD s.2 t.2)=true:=Sr _ _ (l.1.trans mt.1.symm);obtain⟨e,v1,I⟩:=bD g C h n qs s0 Y;obtain⟨f,v3,J⟩:=bD g C i n qt t0 Z;obtain⟨o1,y1,y2⟩:=PE g I q1 n1 N za oa (by omega);obtain⟨o2,y3,y4⟩:=PE g J q2 n2 O zb ob (by omega);obtain⟨r,u1,u2⟩:=bA g (lp:=.Xp o1) (lq:=.Xp o2) ⟨_,.Xp,y2⟩ ⟨_,.Xp,y4⟩ z1 z2 (by unfold XS;rw[ZP];omega) (by unfold XS;rw[ZP];omega);obtain⟨s1,s2,s3,s4,rfl⟩:=h.eight;obtain⟨t1,t2,t3,t4,rfl⟩:=i.eight;obtain⟨e1,e2,e3,e4,rfl⟩:=I.eight;obtain⟨f1,f2,f3,f4,rfl⟩:=J.eight;refine⟨r,Xx.of (g.Wa _ _ rfl) ((hv.Xj.and (k1.Xj.and (k3.Xj.and (w1.Xj.and (hL.Xj.and (v1.Xj.and (v3.Xj.and (y1.Xj.and (y3.Xj.and (u1.Xj.and g.Xj)))))))))).mono fun E K ⟨x0,x1,x2,x3,x4,x5,x6,x7,x8,x9,D⟩=> ?_),u2⟩;have G:=l.1;have H:=mt.1;have L8:=S.1;have L:=I.Nh.1;have M:=J.Nh.1;have p:∀m:List Nat,m.length=8->(Xu m).take 8=Xu m:=fun m C=>Zd (by rw[Xc];omega)
 have j:∀m:List Nat,m.length=8->(Xu m).drop 8=[]:=fun m C=>Zm (by rw[Xc];omega)
 have V:=p _ G;have W:=p _ H;have X:=p _ L8;have a4:=p _ L;have a5:=p _ M;have c1:=j _ G;have c2:=j _ H;have c3:=j _ L8;have c4:=j _ L;have c5:=j _ M;generalize XQ (1,XD s.2 t.2) s=ov1 at *;generalize XQ (1,XD s.2 t.2) t=ov2 at *;generalize XD s.2 t.2=lc at *;simp(decide:=true)only[Xm,Xq,Vm,reduceIte,Nat.reduceAdd,x58,D,X5,x0,x1,x2,x3,x4,x5,x6,x7,x8,x9,V,W,X,G,H,L8,Wk,Xc,Wb,Wf]
abbrev Cw (L lo:PL)(i j:Nat):List (Nat×DV):=[(0,.one (.p L)),(1,.one (.p lo)),(5,.one (.p (.int .i64 (.ofNat i)))),(6,.one (.p (.int .i64 (.ofNat j))))]
theorem Bh {E:Xa}{K k i j:Nat}(e:E.mode=md){g L p q s:PL}{b:List PL}(l:Sl L (Xf b))(r:b[i]? =some p)(m:b[j]? =some q)(v:b.length<1000000)(o:E.pure 58 [.one p,.one q,.one g]=some (.XZ [.one s,.one (.int .i64 (.ofNat 10))]))(H:List Xz):
  Xb E K 0 [0,1,5,6] x24_1 (k+1) ⟨Cw L g i j,H⟩=Xb E K 0 [0,1,5,6] x24_1 k ⟨Cw L g i (j+1),H⟩:=by
 have d:j<b.length:=(Zb.mp m).1;have t:=fun(c:HF) (f:IntKind)=>l.idx (h:=c) (k:=f) (sz:=1) (XJ r) rfl
 have u:=fun(c:HF) (f:IntKind)=>l.idx (h:=c) (k:=f) (sz:=1) (XJ m) rfl
 have a:=l.len;have n:Xe .i64 (.ofNat (j+1))=.ofNat (j+1):=wrap_i64 (by omega);rw[Xb];simp(decide:=true)only[Xm,Xq,Vg,Vm,reduceIte,Nat.reduceEqDiff,Nat.reduceAdd,x24_1,e,X5,a,Xr,d,t,u,o,n]
theorem EN {E:Xa}{K k i j:Nat}(f:E.mode=md){c L p q s r:PL}{b:List PL}(m:Sl L (Xf b))(v:b[i]? =some p)(n:b[j]? =some q)(z:b.length<1000000)(t:E.pure 58 [.one p,.one q,.one c]=some (.XZ [.one s,.one (.int .i64 (.ofNat 0))]))(u:E.pure 59 [.one s,.one L,.one c]=some (.one r))(w:Sl r [])(H:List Xz):
  Xb E K 0 [0,1,5,6] x24_1 (k+1) ⟨Cw L c i j,H⟩=Xb E K 0 [0,1,5,6] x24_1 k ⟨Cw L c i (j+1),H⟩:=by
 have e:j<b.length:=(Zb.mp n).1;have x:=fun(d:HF) (l:IntKind)=>m.idx (h:=d) (k:=l) (sz:=1) (XJ v) rfl
 have y:=fun(d:HF) (l:IntKind)=>m.idx (h:=d) (k:=l) (sz:=1) (XJ n) rfl
 have a:=m.len;have g:=w.len;have o:Xe .i64 (.ofNat (j+1))=.ofNat (j+1):=wrap_i64 (by omega);rw[Xb];simp(decide:=true)only[Xm,Xq,Vg,Vm,reduceIte,Nat.reduceEqDiff,Nat.reduceAdd,x24_1,f,X5,a,Xr,e,x,y,t,u,g,o]
theorem Da {E:Xa}{K k i j:Nat}(e:E.mode=md){l L p q s r:PL}{b:List PL}{o:List (List PL)}(m:Sl L (Xf b))(x:b[i]? =some p)(t:b[j]? =some q)(B:b.length<1000000)(u:E.pure 58 [.one p,.one q,.one l]=some (.XZ [.one s,.one (.int .i64 (.ofNat 0))]))(v:E.pure 59 [.one s,.one L,.one l]=some (.one r))(y:Sl r o)(w:0<o.length)(H:List Xz):
  ∃n,Xb E K 0 [0,1,5,6] x24_1 (k+1) ⟨Cw L l i j,H⟩=some (.ret,⟨n,H⟩)/\Xh n 4=some (.one (.p (.bool false))):=by
 have d:j<b.length:=(Zb.mp t).1;have z:=fun(c:HF) (g:IntKind)=>m.idx (h:=c) (k:=g) (sz:=1) (XJ x) rfl
 have A:=fun(c:HF) (g:IntKind)=>m.idx (h:=c) (k:=g) (sz:=1) (XJ t) rfl
 have a:=m.len;have f:=y.len;apply VE
 ·rw[Xb];simp(decide:=true)only[Xm,Xq,Vg,Vm,reduceIte,Nat.reduceEqDiff,Nat.reduceAdd,x24_1,e,X5,a,Xr,d,z,A,u,v,f,w];rfl
 ·simp only[Xm,reduceIte,Nat.reduceEqDiff]
inductive AF (E:Xa)(L lo p:PL):List PL->Bool->Prop
 |nil:AF E L lo p [] false
 |zero {q s:PL} {rest:List PL} {b:Bool} (h1:E.pure 58 [.one p,.one q,.one lo]=some (.XZ [.one s,.one (.int .i64 (.ofNat 10))])) (h:AF E L lo p rest b):AF E L lo p (q::rest) b
 |ok {q s r:PL} {rest:List PL} {b:Bool} (h1:E.pure 58 [.one p,.one q,.one lo]=some (.XZ [.one s,.one (.int .i64 (.ofNat 0))])) (h2:E.pure 59 [.one s,.one L,.one lo]=some (.one r)) (hr:Sl r []) (h:AF E L lo p rest b):AF E L lo p (q::rest) b
 |bad {q s r:PL} {rest:List PL} {es:List (List PL)} (h1:E.pure 58 [.one p,.one q,.one lo]=some (.XZ [.one s,.one (.int .i64 (.ofNat 0))])) (h2:E.pure 59 [.one s,.one L,.one lo]=some (.one r)) (hr:Sl r es) (he:0<es.length):AF E L lo p (q::rest) true
inductive D6 (E:Xa)(L lo:PL):List PL->Bool->Prop
 |nil:D6 E L lo [] false
 |next {p:PL} {rest:List PL} {b:Bool} (h1:AF E L lo p rest false) (h:D6 E L lo rest b):D6 E L lo (p::rest) b
 |stop {p:PL} {rest:List PL} (h1:AF E L lo p rest true):D6 E L lo (p::rest) true
abbrev Gz (L lo:PL)(i:Nat)(b:Bool)(ex:Go.Ev.Ex)(T':List (Nat×DV)):Prop:=(b=false/\ex=.exit 2/\Xh T' 0=some (.one (.p L))/\Xh T' 1=some (.one (.p lo))/\Xh T' 5=some (.one (.p (.int .i64 (.ofNat i)))))\/(b=true/\ex=.ret/\Xh T' 4=some (.one (.p (.bool false))))
theorem Cv {E:Xa}{K:Nat}(c:E.mode=md){x L p:PL}{n:List PL}(r:Sl L (Xf n)){i:Nat}(u:n[i]? =some p)(t:n.length<1000000){rest:List PL}{b:Bool}(h:AF E L x p rest b):∀(j k:Nat) (H:List Xz),n.drop j=rest->j+rest.length=n.length->rest.length<k->
  ∃y o,Xb E K 0 [0,1,5,6] x24_1 k ⟨Cw L x i j,H⟩=some (y,⟨o,H⟩)/\Gz L x i b y o:=by
 induction h with
 |nil=>
  intro j k H _ a l;obtain⟨k,rfl⟩:∃d,k=d+1:=⟨k-1,by omega⟩;simp only[Zu,Yk]at a;subst a;have m:=r.len;refine⟨.exit 2,?_⟩;apply VE
  ·rw[Xb];simp only[Xm,Xq,reduceIte,Nat.reduceEqDiff,x24_1,m,Xr,Zx];rfl
  ·exact .inl ⟨rfl,rfl,by simp only[Xm,reduceIte,Nat.reduceEqDiff,and_self]⟩
 |zero f h w=>
  intro j k H g a l;obtain⟨k,rfl⟩:∃d,k=d+1:=⟨k-1,by omega⟩;simp only[Zi]at a l;obtain⟨e,q⟩:=Xi g;rw[Bh c r u e t f H];exact w (j+1) k H q (by omega) (by omega)
 |ok f s v h w=>
  intro j k H g a l;obtain⟨k,rfl⟩:∃d,k=d+1:=⟨k-1,by omega⟩;simp only[Zi]at a l;obtain⟨e,q⟩:=Xi g;rw[EN c r u e t f s v H];exact w (j+1) k H q (by omega) (by omega)
 |bad f s v B=>
  intro j k H g a l;obtain⟨k,rfl⟩:∃d,k=d+1:=⟨k-1,by omega⟩;obtain⟨e,q⟩:=Xi g;obtain⟨o,z,A⟩:=Da (K:=K) (k:=k) c r u e t f s v B H;exact⟨.ret,o,z,.inr ⟨rfl,rfl,A⟩⟩
abbrev F8 (L lo:PL)(i:Nat):List (Nat×DV):=[(0,.one (.p L)),(1,.one (.p lo)),(5,.one (.p (.int .i64 (.ofNat i))))]
theorem C9 {E:Xa}{K:Nat}(j:E.mode=md){z L:PL}{e:List PL}(m:Sl L (Xf e))(y:e.length<1000000)(J:e.length<K){rest:List PL}{b:Bool}(h:D6 E L z rest b):∀(i k:Nat) (H:List Xz),e.drop i=rest->i+rest.length=e.length->rest.length<k->
  ∃c n,Xb E K 0 [0,1,5] x24_2 k ⟨F8 L z i,H⟩=some (c,⟨n,H⟩)/\((b=false/\c=.exit 0)\/(b=true/\c=.ret/\Xh n 4=some (.one (.p (.bool false))))):=by
 induction h with
 |nil=>
  intro i k H _ f q;obtain⟨k,rfl⟩:∃l,k=l+1:=⟨k-1,by omega⟩;simp only[Zu,Yk]at f;subst f;have a:=m.len;refine⟨.exit 0,?_⟩;apply VE
  ·rw[Xb];simp only[Xm,Xq,reduceIte,Nat.reduceEqDiff,x24_2,a,Xr,Zx];rfl
  ·exact .inl ⟨rfl,rfl⟩
 |@next p rest b u h C=>
  intro i k H w f q;obtain⟨k,rfl⟩:∃l,k=l+1:=⟨k-1,by omega⟩;simp only[Zi]at f q;obtain⟨t,o⟩:=Xi w;have d:i<e.length:=by omega
  have a:=m.len;have r:Xe .i64 (.ofNat (i+1))=.ofNat (i+1):=wrap_i64 (by omega);obtain⟨c,x,g,s⟩:=Cv (K:=K) j m t y u (i+1) K H o (by omega) (by omega);rcases s with⟨-,rfl,D,F,I⟩|⟨v,-,-⟩
  ·obtain⟨c,n,A,B⟩:=C (i+1) k H o (by omega) (by omega);refine⟨c,n,?_,B⟩;rw[<-A,Xb];simp only[Cw]at g;simp(decide:=true)only[Xm,Xq,reduceIte,x24_2,a,Xr,d,r,g,D,F,I]
  ·cases v
 |@stop p rest u=>
  intro i k H w f q;obtain⟨k,rfl⟩:∃l,k=l+1:=⟨k-1,by omega⟩;simp only[Zi]at f q;obtain⟨t,o⟩:=Xi w;have d:i<e.length:=by omega
  have a:=m.len;have r:Xe .i64 (.ofNat (i+1))=.ofNat (i+1):=wrap_i64 (by omega);obtain⟨c,x,g,s⟩:=Cv (K:=K) j m t y u (i+1) K H o (by omega) (by omega);rcases s with⟨v,-⟩|⟨-,rfl,G⟩
  ·cases v
  ·refine⟨.ret,x,?_,.inr ⟨rfl,rfl,G⟩⟩;rw[Xb];simp only[Cw]at g;simp(decide:=true)only[Xm,Xq,reduceIte,x24_2,a,Xr,d,r,g]
theorem kP {B:Xs}(f:Std B){e L:PL}{c:List PL}(l:Sl L (Xf c))(j:c.length<1000000)(k:Xx B 22 [.one e] (.one (.bool true))){b:Bool}(h:X1 B fun E _=>D6 E L e c b):Xx B 24 [.one L,.one e] (.one (.bool (!b))):=by
 refine Xx.of (f.Wa _ _ rfl) ((h.and (k.Xj.and (f.Xj.and (X1.ge (c.length+1))))).mono fun E K ⟨g,e1,a,p⟩=> ?_);obtain⟨o,n,d,i⟩:=C9 (K:=K) a l j (by omega) g 0 K [] rfl (by omega) (by omega);simp only[F8]at d;rcases i with⟨rfl,rfl⟩|⟨rfl,rfl,m⟩
 ·simp(decide:=true)only[Xm,Xq,Vm,reduceIte,Nat.reduceAdd,x24,a,X5,e1,d]
 ·simp(decide:=true)only[Xm,Xq,Vm,reduceIte,Nat.reduceAdd,x24,a,X5,e1,d,m]
end Go.Proofs.YtidginchkjhobaaGreat
