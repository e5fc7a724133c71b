/- The reference's integers: words. -/
import Derived.Test.YtidginchkjhobaaGreatInt
namespace Go.Proofs.YtidginchkjhobaaGreat
open Go.Ev Go.Num
theorem ae {E:Xa}{K:Nat}{l:PL}{a:P'}(s:Us l a)(g:a.length<9223372036854775808):∀(n k:Nat) (H:V'),n<k->n<=a.length->
  ∃b,Xb E K 0 [0,3] x139_1 k ⟨[(0,.one (.p l)),(3,LB n)],H⟩=some (.exit 0,⟨b,H⟩)/\Xh b 0=some (.one (.p l))/\Xh b 3=some (LB (Vu (a.take n)).length)
 |_,0,_,h,_=>by omega
 |0,k+1,H,_,_=>by
  apply VO
  ·rw[Xb];simp only[Xo,Xr,reduceIte,Nat.reduceEqDiff,x139_1,Zv];rfl
  ·simp only[Xo,reduceIte,Nat.reduceEqDiff,Vu,and_self]
 |n+1,k+1,H,hk,hn=>by
  obtain⟨w,c⟩:∃w,a[n]? =some w:=⟨_,Zg (by omega)⟩;have d:Xe .i64 (Int.ofNat (n+1)-Int.ofNat 1)=Int.ofNat n:=Wi (by omega) (by omega);rw[ly c,cS];by_cases h0:w=0
  ·subst h0;obtain⟨b,e,f⟩:=ae s g n k H (by omega) (by omega);refine⟨b,?_,f⟩;rw[Xb];simp only[Xo,Xr,reduceIte,Nat.reduceEqDiff,x139_1,YD,d,s.idx c];exact e
  ·apply VO
   ·rw[Xb];simp only[Xo,Xr,reduceIte,Nat.reduceEqDiff,x139_1,YD,d,s.idx c,h0];rfl
   ·simp only[Xo,reduceIte,Nat.reduceEqDiff,h0,Zm,ZX,Yy (show n<=a.length by omega),and_self]
theorem SV {B:Xs}(g:Std B){ws:P'}(i:ws.length<9223372036854775808):Xu B 139 [.one (.Xn (Uy ws))] (.one (.Xn (Uy (Vu ws)))):=by
 have s:Us (.Xn (Uy ws)) ws:=.Xn;refine Xu.of (g.Wa _ _ rfl) ((XS.ge (ws.length+1)).mono fun E K k=> ?_);obtain⟨j,d,e,b⟩:=ae (E:=E) (K:=K) s i ws.length K [] (by omega) (Ze _);rw[Yp]at b;have a:∀h,WA 1 h (.p (.Xn (Uy ws))) 0 (some (Vu ws).length)=some (.p (.Xn (Uy (Vu ws))),[]):=by
  intro h;obtain⟨r,a,c⟩:=s.upto (n:=(Vu ws).length) (aU ws);have:=a h;rw[<-fO]at c;rcases c with rfl|⟨-,rfl⟩
  ·exact this
  ·simp only[WA]at this;obtain⟨-,f⟩:=XX this;simp at f
 simp only[Xo,Xr,reduceIte,Nat.reduceEqDiff,Nat.reduceLeDiff,x139,s.len,d,e,b,a]
theorem yA {B:Xs}(g:Std B){l:PL}{a:P'}(s:Us l a)(h:a.length<9223372036854775808):∃r,Xu B 139 [.one l] (.one r)/\Us r (Vu a):=by
 obtain⟨r,f,c⟩:=s.upto (n:=(Vu a).length) (aU a);rw[<-fO]at c;refine⟨r,Xu.of (g.Wa _ _ rfl) ((XS.ge (a.length+1)).mono fun E K j=> ?_),c⟩;obtain⟨i,d,e,b⟩:=ae (E:=E) (K:=K) s h a.length K [] (by omega) (Ze _);rw[Yp]at b;simp only[Xo,Xr,reduceIte,Nat.reduceEqDiff,Nat.reduceLeDiff,x139,s.len,d,e,b,f]
theorem N4 {E:Xa}{K:Nat}{s t:PL}{a b:P'}(i:Us s a)(j:Us t b)(q:WG a)(r:WG b)(l:a.length=b.length)(A:a.length<10000000000000):∀(n k:Nat) (H:V'),n<k->n<=a.length->
  ∃c d,Xb E K 0 [0,1,5] x127_1 k ⟨[(0,.one (.p s)),(1,.one (.p t)),(5,.one (.p (.int .i64 (pI n))))],H⟩=some (c,⟨d,H⟩)/\
   ((val (a.take n)=val (b.take n)/\c=.exit 0)\/(val (a.take n)<val (b.take n)/\c=.ret/\Xh d 4=some (.one (.p (.int .i64 (.negSucc 0)))))\/(val (b.take n)<val (a.take n)/\c=.ret/\Xh d 4=some (LB 1)))
 |_,0,_,h,_=>by omega
 |0,k+1,H,_,_=>by
  refine⟨.exit 0,?_⟩;apply VO
  ·rw[Xb];simp only[Xo,Xr,reduceIte,Nat.reduceEqDiff,x127_1,pI];rfl
  ·exact .inl ⟨rfl,rfl⟩
 |n+1,k+1,H,hk,hn=>by
  obtain⟨w,g⟩:∃w,a[n]? =some w:=⟨_,Zg (by omega)⟩;obtain⟨v,f⟩:∃v,b[n]? =some v:=⟨_,Zg (by omega)⟩;have z:=UI (n:=n) (by omega);have B:val (a.take n)<4294967296^n:=by
   have:=W3 (ws:=a.take n) (fun x m=>q x (YC m))
   rwa[ZX,Yy (by omega)]at this
  have C:val (b.take n)<4294967296^n:=by
   have:=W3 (ws:=b.take n) (fun x m=>r x (YC m))
   rwa[ZX,Yy (by omega)]at this
  rw[VI g,VI f];by_cases e:w=v
  ·subst e;obtain⟨c,d,u,y⟩:=N4 i j q r l A n k H (by omega) (by omega);refine⟨c,d,?_,y.imp (fun h=>⟨by omega,h.2⟩) fun h=>h.imp (fun h=>⟨by omega,h.2⟩) fun h=>⟨by omega,h.2⟩⟩;rw[Xb];simp only[Xo,Xr,reduceIte,Nat.reduceEqDiff,x127_1,pI,Zw,i.idx g,j.idx f,z,Zv];exact u
  ·by_cases o:w<v
   ·have:=Zn (4294967296^n) (show w+1<=v from o);rw[ZG,Z4]at this;refine⟨.ret,?_⟩;apply VO
    ·rw[Xb];simp only[Xo,Xr,reduceIte,Nat.reduceEqDiff,x127_1,pI,Zw,i.idx g,j.idx f,o];rfl
    ·exact .inr (.inl ⟨by omega,rfl,by simp only[Xo,reduceIte,Nat.reduceEqDiff]⟩)
   ·have:=Zn (4294967296^n) (show v+1<=w by omega);rw[ZG,Z4]at this;refine⟨.ret,?_⟩;apply VO
    ·rw[Xb];simp only[Xo,Xr,reduceIte,Nat.reduceEqDiff,x127_1,pI,Zw,i.idx g,j.idx f,o,show v<w by omega];rfl
    ·exact .inr (.inr ⟨by omega,rfl,by simp only[Xo,reduceIte,Nat.reduceEqDiff]⟩)
theorem cp {B:Xs}(s:Std B){o p:PL}{a b:P'}(f:Us o a)(g:Us p b)(j:WG a)(m:WG b)(r:Canon a)(l:Canon b)(t:a.length<10000000000000)(x:b.length<10000000000000):
  Xu B 127 [.one o,.one p] (.one (.int .i64 (kQ (val a) (val b)))):=by
 refine Xu.of (s.Wa _ _ rfl) ((XS.ge (a.length+1)).mono fun E K w=> ?_);by_cases c:a.length=b.length
 ·obtain⟨v,u,k,d⟩:=N4 (E:=E) (K:=K) f g j m c t a.length K [] (by omega) (Ze _);rw[Yp,c,Yp]at d;rw[c]at k;have i:=UI (n:=b.length) (by omega);unfold kQ;rcases d with⟨e,rfl⟩|⟨e,rfl,d⟩|⟨e,rfl,d⟩
  ·simp only[Xo,Xr,reduceIte,Nat.reduceEqDiff,Nat.reduceLeDiff,x127,f.len,g.len,c,Zv,i,k,e,Zv]
  ·simp only[Xo,Xr,reduceIte,Nat.reduceEqDiff,Nat.reduceLeDiff,x127,f.len,g.len,c,Zv,i,k,e,d]
  ·simp only[Xo,Xr,reduceIte,Nat.reduceEqDiff,Nat.reduceLeDiff,x127,f.len,g.len,c,Zv,i,k,e,d,Nat.lt_asymm e]
 ·have q:∀{a b:P'},WG a->Canon b->a.length<b.length->val a<val b:=by
   intro a b j l h;have i:=ZZ (W3 j) (VG (Nat.le_of_lt_succ (by omega:a.length<b.length-1+1)));exact ZZ i (Px l (by omega))
  unfold kQ;by_cases h:a.length<b.length
  ·have e:=q j l h;simp only[Xo,Xr,reduceIte,Nat.reduceEqDiff,Nat.reduceLeDiff,x127,f.len,g.len,h,e]
  ·have e:=q m r (by omega);simp only[Xo,Xr,reduceIte,Nat.reduceEqDiff,Nat.reduceLeDiff,x127,f.len,g.len,h,show b.length<a.length by omega,e,Nat.lt_asymm e]
theorem R5 {B:Xs}(e:Std B){l:PL}{a:P'}(s:Us l a)(d:WG a)(i:Nat):Xu B 163 [.one l,.one (LA i)] (.one (LC (a[i]?.getD 0))):=by
 refine Xu.of (e.Wa _ _ rfl) (XS.of fun K n=> ?_);by_cases h:i<a.length
 ·obtain⟨w,b⟩:∃w,a[i]? =some w:=⟨_,Zg h⟩;have c:w%18446744073709551616=w:=Zh (by have:=d.get b;omega);simp only[Xo,Xr,reduceIte,Nat.reduceEqDiff,Nat.reduceLeDiff,x163,s.len,h,s.idx b,c,b,Option.getD_some]
 ·have b:a[i]? =none:=Yd (by omega);simp only[Xo,Xr,reduceIte,Nat.reduceEqDiff,Nat.reduceLeDiff,x163,s.len,h,b,Option.getD_none]
theorem QK {a:P'}(d:WG a)(i:Nat):a[i]?.getD 0<4294967296:=by
 cases h:a[i]? with
 |none=>simp
 |some w=>exact d.get h
theorem j3 {E:Xa}{K:Nat}{z A:PL}{a b:P'}(B:WG a)(C:WG b){n:Nat}(T:n<10000000000000)(L:E.mode=md)
  (D:∀i,i<n->E.pure 163 [.one z,.one (LA i)]=some (.one (LC (a[i]?.getD 0))))
  (F:∀i,i<n->E.pure 163 [.one A,.one (LA i)]=some (.one (LC (b[i]?.getD 0)))) (t:Nat):
  ∀(d i k:Nat) (r:P') (c:Nat),i+d=n->d<k->r.length=n->WG r->c<2->(∀j,i<=j->j<n->r[j]? =some 0)->val r+c*4294967296^i=val (a.take i)+val (b.take i)->
  ∃e l f,Xb E K 0 [0,1,5,6,7,8] x126_1 k ⟨[(0,.one (.p z)),(1,.one (.p A)),(5,LB n),(6,.one (.own 0 0 0 n)),(7,LD c),(8,LB i)],[⟨false,0,1,Wl r,false,t⟩]⟩=some (.exit 0,⟨e,[⟨false,0,1,Wl l,false,t⟩]⟩)/\
   Xh e 6=some (.one (.own 0 0 0 n))/\l.length=n/\WG l/\val l+f*4294967296^n=val (a.take n)+val (b.take n)
 |_,_,0,_,_,_,h,_,_,_,_,_=>by omega
 |0,i,k+1,r,c,hi,_,h1,h2,h3,h4,h5=>by
  obtain rfl:i=n:=by omega
  have :∃e,Xb E K 0 [0,1,5,6,7,8] x126_1 (k+1) ⟨[(0,.one (.p z)),(1,.one (.p A)),(5,LB i),(6,.one (.own 0 0 0 i)),(7,LD c),(8,LB i)],[⟨false,0,1,Wl r,false,t⟩]⟩=some (.exit 0,⟨e,[⟨false,0,1,Wl r,false,t⟩]⟩)/\Xh e 6=some (.one (.own 0 0 0 i)):=by
   apply VO
   ·rw[Xb];simp only[Xo,Xr,reduceIte,Nat.reduceEqDiff,x126_1,Zv];rfl
   ·simp only[Xo,reduceIte,Nat.reduceEqDiff]
  obtain⟨e,q,s⟩:=this;exact⟨e,r,c,q,s,h1,h2,h5⟩
 |d+1,i,k+1,r,c,hi,hk,h1,h2,h3,h4,h5=>by
  have g:i<n:=by omega
  have V:=QK B i;have U:=QK C i;have m:=D i g;have o:=F i g;have P:=cR a i;have Q:=cR b i;generalize a[i]?.getD 0=w at *;generalize b[i]?.getD 0=v at *;have M:=h4 i (Ze _) (by omega);have G:(w+v)%18446744073709551616=w+v:=Zh (by omega);have H:(w+v+c)%18446744073709551616=w+v+c:=Zh (by omega);have R:Xe .i64 (.ofNat (i+1))=.ofNat (i+1):=wrap_i64 (by omega);have I:(w+v+c)%4294967296%4294967296=(w+v+c)%4294967296:=Nat.mod_mod _ _;have J:(w+v+c) / 4294967296%18446744073709551616=(w+v+c) / 4294967296:=Zh (by omega);have N:T5 .u64 (.ofNat (w+v+c)) (.ofNat 4294967296)=some (.p (LC ((w+v+c)%4294967296))):=rfl;have O:Tk .u64 (.ofNat (w+v+c)) (.ofNat 4294967296)=some (.p (.int .u64 (Xe .u64 (.ofNat ((w+v+c) / 4294967296))))):=rfl;obtain⟨e,l,f,q,s⟩:=j3 B C T L D F t d (i+1) k (r.set i ((w+v+c)%4294967296)) ((w+v+c) / 4294967296) (by omega) (by omega) (by simpa using h1) (h2.set i (by omega)) (by omega)
   (fun j S u=>by rw[ZK (by omega)];exact h4 j (by omega) u) (by
    have e1:=TM (w:=(w+v+c)%4294967296) M;rw[P,Q];have e2:(w+v+c)%4294967296+4294967296*((w+v+c) / 4294967296)=w+v+c:=Nat.mod_add_div _ _;rw[ZQ];clear I J N O G H;generalize (w+v+c)%4294967296=x at *;generalize (w+v+c) / 4294967296=y at *;generalize 4294967296^i=p at *
    grind)
  refine⟨e,l,f,?_,s⟩;rw[Xb];simp only[Xo,Xr,reduceIte,Nat.reduceEqDiff,Nat.reduceLeDiff,x126_1,g,L,X4,m,o,G,H,R,I,J,N,O,X7 M,WQ];exact q
theorem nr {B:Xs}(d:Std B){m lb:PL}{a b:P'}(o:Us m a)(q:Us lb b)(e:WG a)(f:WG b)(N:a.length<2000000000000)(O:b.length<2000000000000):
  Xu B 126 [.one m,.one lb] (.one (.Xn (Uy (Xd (val a+val b))))):=by
 obtain⟨n,Q⟩:∃n,n=max a.length b.length+1:=⟨_,rfl⟩;have H:val a+val b<4294967296^n:=by
  have g:=ZZ (W3 e) (VG (show a.length<=n-1 by omega));have L:=ZZ (W3 f) (VG (show b.length<=n-1 by omega));have :4294967296^n=4294967296^(n-1)*4294967296:=by rw[<-ZQ];congr 1;omega
  omega
 have g:=SV d (ws:=dg n (val a+val b)) (by rw[Wd];omega);rw[Sh H]at g;refine Xu.of (d.Wa _ _ rfl) (((XS.ge (n+1)).and (g.Xk.and (d.Xk.and ((XS.all n fun i _=>(R5 d o e i).Xk).and (XS.all n fun i _=>(R5 d q f i).Xk))))).mono fun E K ⟨M,e1,l,r,s⟩=> ?_);obtain⟨J,I,c,z,A,C,D,F⟩:=j3 (E:=E) (K:=K) e f (show n<10000000000000 by omega) l r s 177 n 0 K (List.replicate n 0) 0 (by omega) (by omega) (by simp) (WG.replicate _) (by decide)
  (fun j _ P=>by rw[Yf,if_pos (by omega)]) (by rw[Ue];simp[val])
 rw[Zd (show a.length<=n by omega),Zd (show b.length<=n by omega)]at F;have k:I=dg n (val a+val b):=by
  have G:c=0:=by
   rcases Yn c with h|h
   ·exact h
   ·have:=Zn (4294967296^n) h;omega
  subst G;exact TZ D C (by omega)
 subst k;have t:maxD SR .i64 (.ofNat a.length) [LB b.length]=some (LB (n-1)):=by
  simp only[maxD,fH,Cr,YA,cond_true,ay];by_cases h:a.length<b.length
  ·simp only[h,decide_true,cond_true];congr 5;omega
  ·simp only[h,decide_false,cond_false];congr 5;omega
 have u:Xe .i64 (.ofNat (n-1+1))=.ofNat n:=by rw[show n-1+1=n by omega];exact wrap_i64 (by omega)
 have w:4*n<=lim:=by unfold lim;omega
 have x:n<=9223372036854775807:=by omega
 have y:∀v,Qg SR (LB a.length::v)=(match maxD SR .i64 (.ofNat a.length) v with |some v=>some ⟨v,[],[],[]⟩|none=>none):=fun _=>rfl
 simp only[Xo,Xr,reduceIte,Nat.reduceEqDiff,Nat.reduceLeDiff,x126,o.len,q.len,y,t,u,w,x,Ze,Tn,z,A,Tx _ (YI (Wd n (val a+val b))),Vv,Wd,Um,UA,l,X4,e1]
theorem Q5 {a b:Nat}(h:b<=a)(c:a<18446744073709551616):Xe .u64 (.ofNat a-.ofNat b)=.ofNat (a-b):=by
 rw[PD h,wrap_u64,Zh (by omega)]
theorem gE {E:Xa}{K:Nat}{B C:PL}{a b:P'}(m:Us B a)(D:WG a)(F:WG b)(W:a.length<10000000000000)(L:E.mode=md)
  (G:∀i,i<a.length->E.pure 163 [.one C,.one (LA i)]=some (.one (LC (b[i]?.getD 0)))) (t:Nat):
  ∀(d i k:Nat) (r:P') (c:Nat),i+d=a.length->d<k->r.length=a.length->WG r->c<2->(∀j,i<=j->j<a.length->r[j]? =some 0)->val r+val (b.take i)=val (a.take i)+c*4294967296^i->
  ∃e g f,Xb E K 0 [0,1,5,6,7] x128_1 k ⟨[(0,.one (.p B)),(1,.one (.p C)),(5,.one (.own 0 0 0 a.length)),(6,LD c),(7,LB i)],[⟨false,0,1,Wl r,false,t⟩]⟩=some (.exit 0,⟨e,[⟨false,0,1,Wl g,false,t⟩]⟩)/\
   Xh e 5=some (.one (.own 0 0 0 a.length))/\g.length=a.length/\WG g/\val g+val (b.take a.length)=val a+f*4294967296^a.length
 |_,_,0,_,_,_,h,_,_,_,_,_=>by omega
 |0,i,k+1,r,c,hi,_,h1,h2,h3,h4,h5=>by
  obtain rfl:i=a.length:=by omega
  rw[Yp]at h5;have :∃e,Xb E K 0 [0,1,5,6,7] x128_1 (k+1) ⟨[(0,.one (.p B)),(1,.one (.p C)),(5,.one (.own 0 0 0 a.length)),(6,LD c),(7,LB a.length)],[⟨false,0,1,Wl r,false,t⟩]⟩=some (.exit 0,⟨e,[⟨false,0,1,Wl r,false,t⟩]⟩)/\
    Xh e 5=some (.one (.own 0 0 0 a.length)):=by
   apply VO
   ·rw[Xb];simp only[Xo,Xr,reduceIte,Nat.reduceEqDiff,x128_1,m.len,Zv];rfl
   ·simp only[Xo,reduceIte,Nat.reduceEqDiff]
  obtain⟨e,q,u⟩:=this;exact⟨e,r,c,q,u,h1,h2,h5⟩
 |d+1,i,k+1,r,c,hi,hk,h1,h2,h3,h4,h5=>by
  obtain⟨w,A⟩:∃w,a[i]? =some w:=⟨_,Zg (by omega)⟩;have l:i<a.length:=by omega
  have Y:=D.get A;have M:=h4 i (Ze _) (by omega);have X:=QK F i;have n:=G i l;have Q:=cR b i;generalize b[i]?.getD 0=v at *;have R:w%18446744073709551616=w:=Zh (by omega);have S:(4294967296+w)%18446744073709551616=4294967296+w:=Zh (by omega);have T:Xe .i64 (.ofNat (i+1))=.ofNat (i+1):=wrap_i64 (by omega);have U:=Q5 (a:=4294967296+w) (b:=v) (by omega) (by omega);have o:=Q5 (a:=4294967296+w-v) (b:=c) (by omega) (by omega);obtain⟨s,N⟩:∃s,s=4294967296+w-v-c:=⟨_,rfl⟩;rw[<-N]at o;have H:s%4294967296%4294967296=s%4294967296:=Nat.mod_mod _ _;have I:s / 4294967296%18446744073709551616=s / 4294967296:=Zh (by omega);have J:=Q5 (a:=1) (b:=s / 4294967296) (by omega) (by omega);have O:T5 .u64 (.ofNat s) (.ofNat 4294967296)=some (.p (LC (s%4294967296))):=rfl;have P:Tk .u64 (.ofNat s) (.ofNat 4294967296)=some (.p (.int .u64 (Xe .u64 (.ofNat (s / 4294967296))))):=rfl;have Z:s%4294967296+c+v=w+4294967296*(1-s / 4294967296):=by omega
  obtain⟨e,g,f,q,u⟩:=gE m D F W L G t d (i+1) k (r.set i (s%4294967296)) (1-s / 4294967296) (by omega) (by omega) (by simpa using h1) (h2.set i (by omega)) (by omega)
   (fun j V z=>by rw[ZK (by omega)];exact h4 j (by omega) z) (by
    have e1:=TM (w:=s%4294967296) M;rw[VI A,Q,ZQ];clear O P H I J o N;generalize s%4294967296=x at *;generalize 1-s / 4294967296=y at *;generalize 4294967296^i=p at *
    grind)
  refine⟨e,g,f,?_,u⟩;rw[Xb];simp only[Xo,Xr,reduceIte,Nat.reduceEqDiff,Nat.reduceLeDiff,x128_1,m.len,l,m.idx A,L,X4,n,R,S,T,U,o,H,I,J,O,P,X7 M,WQ];exact q
theorem cX {B:Xs}(d:Std B){q r:PL}{a b:P'}(s:Us q a)(C:Us r b)(k:WG a)(l:WG b)(e:b.length<=a.length)(H:a.length<2000000000000)(I:val b<=val a):
  Xu B 128 [.one q,.one r] (.one (.Xn (Uy (Xd (val a-val b))))):=by
 have z:=W3 k;have o:=SV d (ws:=dg a.length (val a-val b)) (by rw[Wd];omega);rw[Sh (by omega)]at o;refine Xu.of (d.Wa _ _ rfl) (((XS.ge (a.length+1)).and (o.Xk.and (d.Xk.and (XS.all a.length fun i _=>(R5 d C l i).Xk)))).mono fun E K ⟨F,e1,p,t⟩=> ?_);obtain⟨D,A,c,w,x,m,n,y⟩:=gE (E:=E) (K:=K) s k l (by omega) p t 177 a.length 0 K (List.replicate a.length 0) 0 (by omega) (by omega) (by simp) (WG.replicate _) (by decide)
  (fun j _ G=>by rw[Yf,if_pos (by omega)]) (by rw[Ue];simp[val])
 rw[Zd e]at y;have g:A=dg a.length (val a-val b):=by
  have:=W3 n;rw[m]at this;have f:c=0:=by
   rcases Yn c with h|h
   ·exact h
   ·have:=Zn (4294967296^a.length) h;omega
  subst f;exact TZ n m (by omega)
 subst g;have u:4*a.length<=lim:=by unfold lim;omega
 have v:a.length<=9223372036854775807:=by omega
 simp only[Xo,Xr,reduceIte,Nat.reduceEqDiff,Nat.reduceLeDiff,x128,s.len,u,v,Ze,Tn,w,x,Tx _ (YI (Wd a.length (val a-val b))),Vv,Wd,Um,UA,p,X4,e1]
theorem qv {E:Xa}{K:Nat}{n o:PL}{a b:P'}(Y:Us n a)(B:Us o b)(P:WG b)(hl:a.length+b.length<10000000000000)(t:Nat){i x:Nat}(F:a[i]? =some x)(X:x<4294967296)(V:Nat):
  ∀(d j k:Nat) (r:P') (e:Nat),j+d=b.length->d<k->r.length=a.length+b.length->WG r->e<4294967296->(∀p,i+b.length<=p->p<a.length+b.length->r[p]? =some 0)->val r+e*4294967296^(i+j)+x*4294967296^(i+j)*val (b.drop j)=V->
  ∃c l f,Xb E K 0 [0,1,5,6,7,8] x129_1 k ⟨[(0,.one (.p n)),(1,.one (.p o)),(5,.one (.own 0 0 0 (a.length+b.length))),(6,LB i),(7,LD e),(8,LB j)],[⟨false,0,1,Wl r,false,t⟩]⟩=some (.exit 2,⟨c,[⟨false,0,1,Wl l,false,t⟩]⟩)/\
   (Xh c 0=some (.one (.p n))/\Xh c 1=some (.one (.p o))/\Xh c 5=some (.one (.own 0 0 0 (a.length+b.length)))/\Xh c 6=some (LB i)/\Xh c 7=some (LD f))/\l.length=a.length+b.length/\WG l/\f<4294967296/\(∀p,i+b.length<=p->p<a.length+b.length->l[p]? =some 0)/\val l+f*4294967296^(i+b.length)=V
 |_,_,0,_,_,_,h,_,_,_,_,_=>by omega
 |0,j,k+1,r,e,hj,_,h1,h2,h3,h4,h5=>by
  obtain rfl:j=b.length:=by omega
  have :∃c,Xb E K 0 [0,1,5,6,7,8] x129_1 (k+1) ⟨[(0,.one (.p n)),(1,.one (.p o)),(5,.one (.own 0 0 0 (a.length+b.length))),(6,LB i),(7,LD e),(8,LB b.length)],[⟨false,0,1,Wl r,false,t⟩]⟩=some (.exit 2,⟨c,[⟨false,0,1,Wl r,false,t⟩]⟩)/\(Xh c 0=some (.one (.p n))/\Xh c 1=some (.one (.p o))/\Xh c 5=some (.one (.own 0 0 0 (a.length+b.length)))/\Xh c 6=some (LB i)/\Xh c 7=some (LD e)):=by
   apply VO
   ·rw[Xb];simp only[Xo,Xr,reduceIte,Nat.reduceEqDiff,x129_1,B.len,Zv];rfl
   ·simp only[Xo,reduceIte,Nat.reduceEqDiff,and_self]
  obtain⟨c,A,D⟩:=this;refine⟨c,r,e,A,D,h1,h2,h3,h4,?_⟩;rw[List.drop_length]at h5;simpa[val]using h5
 |d+1,j,k+1,r,e,hj,hk,h1,h2,h3,h4,h5=>by
  have a0:i<a.length:=(Zf.1 F).1;have m:j<b.length:=by omega
  obtain⟨v,L⟩:∃v,b[j]? =some v:=⟨_,Zg m⟩;obtain⟨u,I⟩:∃u,r[i+j]? =some u:=⟨_,Zg (by omega)⟩;have M:=P.get L;have J:=h2.get I;have U:=Ss X M J h3;have Z:x%18446744073709551616=x:=Zh (by omega);have Q:v%18446744073709551616=v:=Zh (by omega);have R:u%18446744073709551616=u:=Zh (by omega);have S:(x*v)%18446744073709551616=x*v:=Zh (by omega);have T:(x*v+u)%18446744073709551616=x*v+u:=Zh (by omega);have q:(x*v+u+e)%18446744073709551616=x*v+u+e:=Zh U;have f6:Xe .i64 (.ofNat (i+j))=.ofNat (i+j):=wrap_i64 (by omega);have f7:Xe .i64 (.ofNat (j+1))=.ofNat (j+1):=wrap_i64 (by omega);have f8:i+j<a.length+b.length:=by omega
  obtain⟨s,W⟩:∃s,s=x*v+u+e:=⟨_,rfl⟩;rw[<-W]at q;have C:s%4294967296%4294967296=s%4294967296:=Nat.mod_mod _ _;have g:s / 4294967296%18446744073709551616=s / 4294967296:=Zh (by omega);have N:T5 .u64 (.ofNat s) (.ofNat 4294967296)=some (.p (LC (s%4294967296))):=rfl;have O:Tk .u64 (.ofNat s) (.ofNat 4294967296)=some (.p (.int .u64 (Xe .u64 (.ofNat (s / 4294967296))))):=rfl;obtain⟨c,l,f,A,D⟩:=qv Y B P hl t F X V d (j+1) k (r.set (i+j) (s%4294967296)) (s / 4294967296) (by omega) (by omega) (by simpa using h1) (h2.set _ (by omega)) (by omega)
   (fun p G H=>by rw[ZK (by omega)];exact h4 p G H) (by
    have e1:=TM (w:=s%4294967296) I;rw[Oq L]at h5;have e2:s%4294967296+4294967296*(s / 4294967296)=s:=Nat.mod_add_div _ _;rw[show i+(j+1)=(i+j)+1 by omega,ZQ];clear U S T q Q R N O C g;generalize s%4294967296=y at *;generalize s / 4294967296=z at *;generalize 4294967296^(i+j)=p at *
    grind)
  refine⟨c,l,f,?_,D⟩;rw[W]at q N O C g A;rw[Xb];simp only[Xo,Xr,reduceIte,Nat.reduceEqDiff,Nat.reduceLeDiff,x129_1,B.len,m,Y.idx F,B.idx L,Z,Q,R,S,T,q,f6,f7,f8,C,g,N,O,X7 I,WQ];exact A
theorem lk {E:Xa}{K:Nat}{s u:PL}{a b:P'}(j:Us s a)(z:Us u b)(B:WG a)(C:WG b)(F:a.length+b.length<10000000000000)(D:b.length<K)(t:Nat):
  ∀(d i k:Nat) (r:P'),i+d=a.length->d<k->r.length=a.length+b.length->WG r->(∀p,i+b.length<=p->p<a.length+b.length->r[p]? =some 0)->val r=val (a.take i)*val b->
  ∃c e,Xb E K 0 [0,1,5,6] x129_2 k ⟨[(0,.one (.p s)),(1,.one (.p u)),(5,.one (.own 0 0 0 (a.length+b.length))),(6,LB i)],[⟨false,0,1,Wl r,false,t⟩]⟩=some (.exit 0,⟨c,[⟨false,0,1,Wl e,false,t⟩]⟩)/\
   Xh c 5=some (.one (.own 0 0 0 (a.length+b.length)))/\e.length=a.length+b.length/\WG e/\val e=val a*val b
 |_,_,0,_,_,h,_,_,_,_=>by omega
 |0,i,k+1,r,hi,_,h1,h2,h3,h4=>by
  obtain rfl:i=a.length:=by omega
  rw[Yp]at h4;have :∃c,Xb E K 0 [0,1,5,6] x129_2 (k+1) ⟨[(0,.one (.p s)),(1,.one (.p u)),(5,.one (.own 0 0 0 (a.length+b.length))),(6,LB a.length)],[⟨false,0,1,Wl r,false,t⟩]⟩=some (.exit 0,⟨c,[⟨false,0,1,Wl r,false,t⟩]⟩)/\Xh c 5=some (.one (.own 0 0 0 (a.length+b.length))):=by
   apply VO
   ·rw[Xb];simp only[Xo,Xr,reduceIte,Nat.reduceEqDiff,x129_2,j.len,Zv];rfl
   ·simp only[Xo,reduceIte,Nat.reduceEqDiff]
  obtain⟨c,l,m⟩:=this;exact⟨c,r,l,m,h1,h2,h4⟩
 |d+1,i,k+1,r,hi,hk,h1,h2,h3,h4=>by
  have f:i<a.length:=by omega
  obtain⟨x,o⟩:∃x,a[i]? =some x:=⟨_,Zg f⟩;have q:=B.get o;obtain⟨V,U,A,M,⟨O,P,Q,R,S⟩,T,v,y,g,N⟩:=qv (E:=E) (K:=K) j z C F t o q (val r+x*4294967296^i*val b) b.length 0 K r 0 (by omega) D h1 h2 (by decide) h3 (by simp);have G:=g (i+b.length) (Ze _) (by omega);obtain⟨c,e,l,m⟩:=lk j z B C F D t d (i+1) k (U.set (i+b.length) (A%4294967296)) (by omega) (by omega) (by simpa using T) (v.set _ (by omega))
   (fun p L n=>by rw[ZK (by omega)];exact g p (by omega) n) (by
    have e1:=TM (w:=A%4294967296) G;rw[Zh y]at e1⊢;rw[VI o,ZG,<-h4];omega)
  refine⟨c,e,?_,m⟩;have H:Xe .i64 (.ofNat (i+1))=.ofNat (i+1):=wrap_i64 (by omega);have I:Xe .i64 (.ofNat (i+b.length))=.ofNat (i+b.length):=wrap_i64 (by omega);have J:i+b.length<a.length+b.length:=by omega
  rw[Xb];simp only[Xo,Xr,reduceIte,Nat.reduceEqDiff,Nat.reduceLeDiff,x129_2,j.len,z.len,f,H,I,J,M,O,P,Q,R,S,X7 G,WQ];exact l
theorem cV {B:Xs}(c:Std B){i lb:PL}{a b:P'}(k:Us i a)(l:Us lb b)(f:WG a)(g:WG b)(u:a.length+b.length<10000000000000):
  Xu B 129 [.one i,.one lb] (.one (.Xn (Uy (Xd (val a*val b))))):=by
 have d:=W3 f;have e:=W3 g;have h:=SV c (ws:=dg (a.length+b.length) (val a*val b)) (by rw[Wd];omega);rw[Sh (by rw[Yu];exact Nat.mul_lt_mul'' d e)]at h;refine Xu.of (c.Wa _ _ rfl) (((XS.ge (a.length+b.length+1)).and (h.Xk.and c.Xk)).mono fun E K ⟨x,e1,v⟩=> ?_);obtain⟨w,z,p,q,r,s,t⟩:=lk (E:=E) (K:=K) k l f g u (by omega) 177 a.length 0 K (List.replicate (a.length+b.length) 0) (by omega) (by omega) (by simp) (WG.replicate _)
  (fun j _ y=>by rw[Yf,if_pos (by omega)]) (by rw[Ue];simp[val])
 obtain rfl:=TZ s r t;have m:Xe .i64 (.ofNat (a.length+b.length))=.ofNat (a.length+b.length):=wrap_i64 (by omega);have n:4*(a.length+b.length)<=lim:=by unfold lim;omega
 have o:a.length+b.length<=9223372036854775807:=by omega
 simp only[Xo,Xr,reduceIte,Nat.reduceEqDiff,Nat.reduceLeDiff,x129,k.len,l.len,m,n,o,Ze,Tn,p,q,Tx _ (YI (Wd (a.length+b.length) (val a*val b))),Vv,Wd,Um,UA,v,X4,e1]
theorem V8 {B:Xs}(e:Std B){l:PL}{a:P'}(neg:Bool)(s:Us l a)(d:WG a)(j:a.length<10000000000000):∃c,Xu B 92 [.one (.bool neg),.one l] (.agg c)/\Tw c (if neg then -(val a:Int)else val a):=by
 obtain⟨r,g,b⟩:=yA e s (by omega);rw[U3 d rfl]at b;have i:(if neg then -(val a:Int)else val a).natAbs=val a:=by cases neg<;>simp
 refine⟨[.bool (decide ((if neg then -(val a:Int)else val a)<0)),r],Xu.of (e.Wa _ _ rfl) ((g.Xk.and e.Xk).mono fun E K ⟨e1,f⟩=> ?_),r,rfl,by rw[i];exact b⟩;cases neg with
 |false=>
  have :¬((val a:Int)<0):=by omega
  simp only[Xo,Xr,reduceIte,Nat.reduceEqDiff,Nat.reduceLeDiff,x92,f,X4,e1,this]
 |true=>
  have h:((-(val a:Int))<0)=(0<(Xd (val a)).length):=by
   have:=@VE (val a);simp only[eq_iff_iff];omega
  simp only[Xo,Xr,reduceIte,Nat.reduceEqDiff,Nat.reduceLeDiff,x92,f,X4,e1,b.len,h]
theorem Qe {B:Xs}(a:Std B){m:Nat}(b:m<18446744073709551616):Xu B 93 [.one (LC m)] (.one (.Xn (Uy (Xd m)))):=by
 have e:Xu B 139 [.one (.Xn [[.int .u32 (.ofNat (m%4294967296))],[.int .u32 (.ofNat (m / 4294967296))]])] (.one (.Xn (Uy (Xd m)))):=by
  have:=SV a (ws:=[m%4294967296,m / 4294967296]) (by simp);rw[U3 (n:=m) (WG.mk (by omega) (WG.mk (by omega) WG.nil)) (by simp only[val];omega)]at this;exact this
 refine Xu.of (a.Wa _ _ rfl) ((e.Xk.and a.Xk).mono fun E K ⟨e1,b⟩=> ?_);have f:T5 .u64 (.ofNat m) (.ofNat 4294967296)=some (.p (LC (m%4294967296))):=rfl;have g:Tk .u64 (.ofNat m) (.ofNat 4294967296)=some (.p (.int .u64 (Xe .u64 (.ofNat (m / 4294967296))))):=rfl;have c:m%4294967296%4294967296=m%4294967296:=Nat.mod_mod _ _;have d:m / 4294967296%18446744073709551616%4294967296=m / 4294967296:=by omega
 simp only[Xo,Xr,reduceIte,Nat.reduceEqDiff,Nat.reduceLeDiff,Nat.reduceLT,Nat.reduceAdd,x93,f,g,c,d,b,X4,e1]
theorem Oo {m:Nat}(h:m<18446744073709551616):(Xd m).length<=2:=VK (by simpa using h)
theorem wv {B:Xs}(a:Std B){m:Nat}(i:m<9223372036854775808):∃c,Xu B 49 [.one (LA m)] (.agg c)/\Tw c m:=by
 have g:=Qe a (m:=m) (by omega);have e:=Oo (m:=m) (by omega);obtain⟨c,h,b⟩:=V8 a false (l:=.Xn (Uy (Xd m))) .Xn (Xp m) (by omega);rw[Xm]at b;refine⟨c,Xu.of (a.Wa _ _ rfl) ((g.Xk.and (h.Xk.and a.Xk)).mono fun E K ⟨e1,e2,d⟩=> ?_),by simpa using b⟩;obtain⟨l,rfl,-⟩:=b;have f:m%18446744073709551616=m:=Zh (by omega);simp only[Xo,Xr,reduceIte,Nat.reduceEqDiff,Nat.reduceLeDiff,Nat.reduceAdd,x49,f,Nat.not_lt_zero,d,X4,e1,e2]
theorem EC {B:Xs}(a:Std B){m:Nat}(o:m<9223372036854775808):∃c,Xu B 49 [.one (.int .i64 (.negSucc m))] (.agg c)/\Tw c (.negSucc m):=by
 have j:=Qe a (m:=m+1) (by omega);have f:=Oo (m:=m+1) (by omega);obtain⟨c,k,b⟩:=V8 a true (l:=.Xn (Uy (Xd (m+1)))) .Xn (Xp _) (by omega);rw[Xm]at b;refine⟨c,Xu.of (a.Wa _ _ rfl) ((j.Xk.and (k.Xk.and a.Xk)).mono fun E K ⟨e1,e2,d⟩=> ?_),by simpa[Int.negSucc_eq]using b⟩;obtain⟨l,rfl,-⟩:=b;have g:m%18446744073709551616=m:=Zh (by omega);have h:(m+1)%18446744073709551616=m+1:=Zh (by omega);have i:Xe .i64 (0-Xe .i64 (Int.negSucc m+Int.ofNat 1))=.ofNat m:=by
  cases m with
  |zero=>rfl
  |succ m=>
   have e:(Int.negSucc (m+1)+Int.ofNat 1)=Int.negSucc m:=by simp only[Int.negSucc_eq,Zz];omega
   rw[e];have e2:Xe .i64 (Int.negSucc m)=Int.negSucc m:=by
    have h0:m%18446744073709551616=m:=Zh (by omega);have n:Nat.ble 9223372036854775808 (18446744073709551615-m)=true:=Py (by omega);show UU .i64 (18446744073709551615-m%18446744073709551616)=_;rw[h0];show(bif true&&Nat.ble 9223372036854775808 (18446744073709551615-m)then _ else _)=_;rw[n];show Int.negSucc (18446744073709551616-(18446744073709551615-m)-1)=_;congr 1;omega
   rw[e2,show(0-Int.negSucc m:Int)=Int.ofNat (m+1)by simp only[Int.negSucc_eq,Zz];omega];exact wrap_i64 o
 simp only[Xo,Xr,reduceIte,Nat.reduceEqDiff,Nat.reduceLeDiff,Nat.reduceAdd,x49,i,g,h,d,X4,e1,e2]
theorem dt {B:Xs}(k:Std B){c:N'}{z:Int}(l:Tw c z):Xu B 77 [.agg c] (.one (.int .i64 (nS z))):=by
 obtain⟨m,rfl,i⟩:=l;refine Xu.of (k.Wa _ _ rfl) (XS.of fun K n=> ?_);unfold nS;by_cases f:z<0
 ·have h0:z≠0:=by omega
  simp only[Xo,Xr,reduceIte,Nat.reduceEqDiff,Nat.reduceLeDiff,Nat.reduceAdd,x77,h0,f]
 ·have d:∀n:Nat,Qg (fun a b=>SR b a) [LB n,LB 1]=some ⟨LB (if n=0 then 0 else 1),[],[],[]⟩:=by
   intro n;simp only[Qg,maxD,fH,Cr,YA,cond_true,ay,Va.pure];by_cases h:1<n
   ·simp only[h,decide_true,cond_true];rw[if_neg (by omega)]
   ·simp only[h,decide_false,cond_false];rcases Yn n with e|e
    ·rw[if_pos e,e]
    ·rw[if_neg (by omega),show n=1 by omega]
  have g:((Xd z.natAbs).length=0)=(z=0):=by rw[eq_iff_iff,VE];omega
  by_cases h0:z=0
  ·rw[if_pos h0];have j:(Xd z.natAbs).length=0:=by rw[g];exact h0
   simp only[Xo,Xr,reduceIte,Nat.reduceEqDiff,Nat.reduceLeDiff,Nat.reduceAdd,x77,i.len,d,j,f]
  ·simp only[Xo,Xr,reduceIte,Nat.reduceEqDiff,Nat.reduceLeDiff,Nat.reduceAdd,x77,i.len,d,g,h0,f]
theorem Bt {B:Xs}(d:Std B){c:N'}{z:Int}(g:Tw c z)(j:Sm z):∃a,Xu B 124 [.agg c] (.agg a)/\Tw a (-z):=by
 obtain⟨m,rfl,i⟩:=g;unfold Sm at j;obtain⟨a,f,b⟩:=V8 d (!decide (z<0)) i (Xp _) (by omega);rw[Xm]at b;refine⟨a,Xu.of (d.Wa _ _ rfl) ((f.Xk.and d.Xk).mono fun E K ⟨e2,e⟩=> ?_),?_⟩
 ·obtain⟨l,rfl,-⟩:=b;simp(decide:=true)only[Xo,Xr,reduceIte,Nat.reduceAdd,x124,e,X4,e2]
 ·have : -z=(if(!decide (z<0))=true then -(z.natAbs:Int)else z.natAbs):=by
   by_cases h:z<0
   ·simp[h];omega
   ·simp[h];omega
  rw[this];exact b
theorem Rq (m n:Nat):SR (kQ m n) (.ofNat 0)=decide (m<n):=by
 unfold kQ;by_cases h:m<n
 ·rw[if_pos h,decide_eq_true h];rfl
 ·rw[if_neg h,decide_eq_false h];split<;>rfl
theorem Qf {B:Xs}(b:Std B){c d:N'}{x y:Int}(o:Tw c x)(p:Tw d y)(t:Sm x)(u:Sm y):∃e,Xu B 76 [.agg c,.agg d] (.agg e)/\Tw e (x*y):=by
 obtain⟨m,rfl,q⟩:=o;obtain⟨n,rfl,r⟩:=p;unfold Sm at t u;have i:=cV b q r (Xp _) (Xp _) (by omega);rw[Xm,Xm]at i;have a:(Xd (x.natAbs*y.natAbs)).length<10000000000000:=by
  have:=UP x.natAbs y.natAbs;omega
 obtain⟨e,j,f⟩:=V8 b (decide (x<0)!=decide (y<0)) (l:=.Xn (Uy (Xd (x.natAbs*y.natAbs)))) .Xn (Xp _) a;rw[Xm]at f;refine⟨e,Xu.of (b.Wa _ _ rfl) ((i.Xk.and (j.Xk.and b.Xk)).mono fun E K ⟨e1,e2,g⟩=> ?_),?_⟩
 ·obtain⟨l,rfl,-⟩:=f;have s:((decide (x<0)==decide (y<0))!=true)=(decide (x<0)!=decide (y<0)):=by
   cases decide (x<0)<;>cases decide (y<0)<;>rfl
  simp(decide:=true)only[Xo,Xr,reduceIte,Nat.reduceAdd,x76,g,X4,e1,e2,s]
 ·have :x*y=(if(decide (x<0)!=decide (y<0))=true then -((x.natAbs*y.natAbs:Nat):Int)else((x.natAbs*y.natAbs:Nat):Int)):=by
   rw[Int.natCast_mul];by_cases h:x<0<;>by_cases k:y<0
   ·simp only[h,k,decide_true,bne_self_eq_false,Zy,if_false];rw[show(x.natAbs:Int)= -x by omega,show(y.natAbs:Int)= -y by omega];grind
   ·simp only[h,k,decide_true,decide_false,bne_iff_ne,ne_eq,Bool.true_eq_false,not_false_eq_true,if_true];rw[show(x.natAbs:Int)= -x by omega,show(y.natAbs:Int)=y by omega];grind
   ·simp only[h,k,decide_true,decide_false,bne_iff_ne,ne_eq,Zy,not_false_eq_true,if_true];rw[show(x.natAbs:Int)=x by omega,show(y.natAbs:Int)= -y by omega];grind
   ·simp only[h,k,decide_false,bne_self_eq_false,Zy,if_false];rw[show(x.natAbs:Int)=x by omega,show(y.natAbs:Int)=y by omega]
  rw[this];exact f
theorem BJ {B:Xs}(b:Std B){c d:N'}{x y:Int}(w:Tw c x)(z:Tw d y)(A:Sm x)(C:Sm y):∃e,Xu B 75 [.agg c,.agg d] (.agg e)/\Tw e (x+y):=by
 obtain⟨m,rfl,s⟩:=w;obtain⟨n,rfl,t⟩:=z;unfold Sm at A C;by_cases q:decide (x<0)=decide (y<0)
 ·have i:=nr b s t (Xp _) (Xp _) (by omega) (by omega);rw[Xm,Xm]at i;have a:(Xd (x.natAbs+y.natAbs)).length<10000000000000:=by
   have:=UQ x.natAbs y.natAbs;omega
  obtain⟨e,o,f⟩:=V8 b (decide (x<0)) (l:=.Xn (Uy (Xd (x.natAbs+y.natAbs)))) .Xn (Xp _) a;rw[Xm]at f;refine⟨e,Xu.of (b.Wa _ _ rfl) ((i.Xk.and (o.Xk.and b.Xk)).mono fun E K ⟨e1,e2,g⟩=> ?_),?_⟩
  ·obtain⟨l,rfl,-⟩:=f;rw[<-q];have u:(decide (x<0)==decide (x<0))=true:=beq_self_eq_true _;simp(decide:=true)only[Xo,Xr,reduceIte,Nat.reduceAdd,x75,g,X4,e1,e2,u]
  ·have :x+y=(if decide (x<0)=true then -((x.natAbs+y.natAbs:Nat):Int)else((x.natAbs+y.natAbs:Nat):Int)):=by
    by_cases h:x<0
    ·have k:y<0:=by simpa[h]using q
     simp only[h,decide_true,if_true];omega
    ·have k:¬y<0:=by simpa[h]using q
     simp only[h,decide_false,Zy,if_false];omega
   rw[this];exact f
 ·have u:(decide (x<0)==decide (y<0))=false:=by simpa using q
  have h0:=cp b s t (Xp _) (Xp _) (Vc _) (Vc _) (by omega) (by omega);rw[Xm,Xm]at h0;have r:(x<0/\¬y<0)\/(¬x<0/\y<0):=by
   by_cases h:x<0<;>by_cases k:y<0<;>simp[h,k]at q⊢
  by_cases p:y.natAbs<=x.natAbs
  ·have j:¬x.natAbs<y.natAbs:=by omega
   have i:=cX b s t (Xp _) (Xp _) (XN p) (by omega) (by rw[Xm,Xm];exact p);rw[Xm,Xm]at i;have a:(Xd (x.natAbs-y.natAbs)).length<10000000000000:=by
    have:=XN (Nat.sub_le x.natAbs y.natAbs);omega
   obtain⟨e,o,f⟩:=V8 b (decide (x<0)) (l:=.Xn (Uy (Xd (x.natAbs-y.natAbs)))) .Xn (Xp _) a;rw[Xm]at f;refine⟨e,Xu.of (b.Wa _ _ rfl) ((h0.Xk.and (i.Xk.and (o.Xk.and b.Xk))).mono fun E K ⟨v,e1,e2,g⟩=> ?_),?_⟩
   ·obtain⟨l,rfl,-⟩:=f;simp(decide:=true)only[Xo,Xr,reduceIte,Nat.reduceAdd,x75,g,X4,v,e1,e2,u,Rq,j]
   ·have :x+y=(if decide (x<0)=true then -((x.natAbs-y.natAbs:Nat):Int)else((x.natAbs-y.natAbs:Nat):Int)):=by
     rcases r with⟨h,k⟩|⟨h,k⟩
     ·simp only[h,decide_true,if_true];omega
     ·simp only[h,decide_false,Zy,if_false];omega
    rw[this];exact f
  ·have j:x.natAbs<y.natAbs:=by omega
   have i:=cX b t s (Xp _) (Xp _) (XN (by omega)) (by omega) (by rw[Xm,Xm];omega);rw[Xm,Xm]at i;have a:(Xd (y.natAbs-x.natAbs)).length<10000000000000:=by
    have:=XN (Nat.sub_le y.natAbs x.natAbs);omega
   obtain⟨e,o,f⟩:=V8 b (decide (y<0)) (l:=.Xn (Uy (Xd (y.natAbs-x.natAbs)))) .Xn (Xp _) a;rw[Xm]at f;refine⟨e,Xu.of (b.Wa _ _ rfl) ((h0.Xk.and (i.Xk.and (o.Xk.and b.Xk))).mono fun E K ⟨v,e1,e2,g⟩=> ?_),?_⟩
   ·obtain⟨l,rfl,-⟩:=f;simp(decide:=true)only[Xo,Xr,reduceIte,Nat.reduceAdd,x75,g,X4,v,e1,e2,u,Rq,j]
   ·have :x+y=(if decide (y<0)=true then -((y.natAbs-x.natAbs:Nat):Int)else((y.natAbs-x.natAbs:Nat):Int)):=by
     rcases r with⟨h,k⟩|⟨h,k⟩
     ·simp only[k,decide_false,Zy,if_false];omega
     ·simp only[k,decide_true,if_true];omega
    rw[this];exact f
theorem eF {B:Xs}(b:Std B){l:PL}{a:P'}(s:Us l a)(d:WG a)(h:a.length<=2):Xu B 184 [.one l] (.one (LC (val a))):=by
 have h0:=R5 b s d 0;have g:=R5 b s d 1;have k:=QK d 0;have m:=QK d 1;have j:val a=a[1]?.getD 0*4294967296+a[0]?.getD 0:=by
  match a,h with
  |[],_=>rfl
  |[w],_=>simp[val]
  |[w,v],_=>simp[val];omega
 refine Xu.of (b.Wa _ _ rfl) ((h0.Xk.and (g.Xk.and b.Xk)).mono fun E K ⟨c,e1,i⟩=> ?_);rw[j];generalize a[1]?.getD 0=x at *;generalize a[0]?.getD 0=y at *;have e:x*4294967296%18446744073709551616=x*4294967296:=Zh (by omega);have f:(x*4294967296+y)%18446744073709551616=x*4294967296+y:=Zh (by omega);simp only[Xo,Xr,reduceIte,Nat.reduceEqDiff,Nat.reduceLeDiff,x184,i,X4,c,e1,e,f]
theorem nW {E:Xa}{K:Nat}:∀(b a k:Nat) (H:V'),b<k->a<18446744073709551616->b<18446744073709551616->
  ∃c,Xb E K 0 [0,1] x183_1 k ⟨[(0,LD a),(1,LD b)],H⟩=some (.exit 0,⟨c,H⟩)/\Xh c 0=some (LD (Nat.gcd a b)):=by
 intro b;induction b using Nat.strongRecOn with
 |ind b h=>
  intro a k H m j l;obtain⟨k,rfl⟩:∃i,k=i+1:=⟨k-1,by omega⟩;cases b with
  |zero=>
   apply VO
   ·rw[Xb];simp only[Xo,Xr,reduceIte,Nat.reduceEqDiff,x183_1,Zv];rfl
   ·simp only[Xo,reduceIte,Nat.reduceEqDiff,Nat.gcd_zero_right]
  |succ b=>
   have d:a%(b+1)<b+1:=Z1 _ (by omega);obtain⟨c,f,g⟩:=h (a%(b+1)) d (b+1) k H (by omega) (by omega) (by omega);have e:Nat.gcd a (b+1)=Nat.gcd (b+1) (a%(b+1)):=by
    rw[Nat.gcd_comm,Nat.gcd_rec];exact Nat.gcd_comm _ _
   refine⟨c,?_,by rw[g,e]⟩;rw[Xb];simp only[Xo,Xr,reduceIte,Nat.reduceEqDiff,x183_1,YD];exact f
theorem qP {B:Xs}(e:Std B){a b:Nat}(f:a<18446744073709551616)(g:b<18446744073709551616):Xu B 183 [.one (LC a),.one (LC b)] (.one (LC (Nat.gcd a b))):=by
 refine Xu.of (e.Wa _ _ rfl) ((XS.ge (b+1)).mono fun E K i=> ?_);obtain⟨h,c,d⟩:=nW (E:=E) (K:=K) b a K [] (by omega) f g;simp only[Xo,Xr,reduceIte,Nat.reduceEqDiff,Nat.reduceLeDiff,x183,c,d]
theorem drop_set {a:P'}{n w:Nat}(h:n<a.length):(a.set n w).drop n=w::a.drop (n+1):=by
 rw[Z5 (by simpa using h),List.getElem_set_self,List.drop_set_of_lt (by omega)]
theorem eE {E:Xa}{K:Nat}{v:PL}{a:P'}(B:Us v a)(z:WG a)(H:a.length<10000000000000)(t:Nat){d:Nat}(A:0<d)(l:d<4294967296):
  ∀(n k:Nat) (q:P') (r:Nat),n<k->n<=a.length->q.length=a.length->WG q->r<d->val (a.drop n)=d*val (q.drop n)+r->
  ∃b c g,Xb E K 0 [0,1,6,7,8] x194_1 k ⟨[(0,.one (.p v)),(1,LD d),(6,.one (.own 0 0 0 a.length)),(7,LD r),(8,.one (.p (.int .i64 (pI n))))],[⟨false,0,1,Wl q,false,t⟩]⟩=some (.exit 0,⟨b,[⟨false,0,1,Wl c,false,t⟩]⟩)/\
   (Xh b 6=some (.one (.own 0 0 0 a.length))/\Xh b 7=some (LD g))/\c.length=a.length/\WG c/\g<d/\val a=d*val c+g
 |_,0,_,_,h,_,_,_,_,_=>by omega
 |0,k+1,q,r,_,_,h1,h2,h3,h4=>by
  have :∃b,Xb E K 0 [0,1,6,7,8] x194_1 (k+1) ⟨[(0,.one (.p v)),(1,LD d),(6,.one (.own 0 0 0 a.length)),(7,LD r),(8,.one (.p (.int .i64 (pI 0))))],[⟨false,0,1,Wl q,false,t⟩]⟩=some (.exit 0,⟨b,[⟨false,0,1,Wl q,false,t⟩]⟩)/\
    (Xh b 6=some (.one (.own 0 0 0 a.length))/\Xh b 7=some (LD r)):=by
   apply VO
   ·rw[Xb];simp only[Xo,Xr,reduceIte,Nat.reduceEqDiff,x194_1,pI];rfl
   ·simp only[Xo,reduceIte,Nat.reduceEqDiff,and_self]
  obtain⟨b,i,j⟩:=this;exact⟨b,q,r,i,j,h1,h2,h3,by simpa using h4⟩
 |n+1,k+1,q,r,hk,hn,h1,h2,h3,h4=>by
  obtain⟨w,o⟩:∃w,a[n]? =some w:=⟨_,Zg (by omega)⟩;obtain⟨u,L⟩:∃u,q[n]? =some u:=⟨_,Zg (by omega)⟩;have M:=z.get o;obtain⟨s,J⟩:∃s,s=r*4294967296+w:=⟨_,rfl⟩;have f:s / d<4294967296:=Yl (by
   have:=Zn 4294967296 (show r+1<=d from h3);rw[ZG]at this;omega)
  have C:w%18446744073709551616=w:=Zh (by omega);have D:r*4294967296%18446744073709551616=r*4294967296:=Zh (by omega);have F:(r*4294967296+w)%18446744073709551616=s:=by rw[<-J];exact Zh (by omega)
  have G:Xe .u32 (Xe .u64 (.ofNat (s / d)))=.ofNat (s / d):=by
   rw[wrap_u64,Zh (show s / d<18446744073709551616 by omega),wrap_u32,Zh f]
  have N:T5 .u64 (.ofNat s) (.ofNat d)=some (.p (LC (s%d))):=by
   obtain⟨e,rfl⟩:∃e,d=e+1:=⟨d-1,by omega⟩;rfl
  have O:Tk .u64 (.ofNat s) (.ofNat d)=some (.p (.int .u64 (Xe .u64 (.ofNat (s / d))))):=by
   obtain⟨e,rfl⟩:∃e,d=e+1:=⟨d-1,by omega⟩;rfl
  have I:=UI (n:=n) (by omega);have m:n<a.length:=by omega
  obtain⟨b,c,g,i,j⟩:=eE B z H t A l n k (q.set n (s / d)) (s%d) (by omega) (by omega) (by simpa using h1) (h2.set n f) (Z1 _ A) (by
   rw[drop_set (by omega),Oq o,h4];simp only[val];have:=Yz s d;generalize s / d=x at *;generalize s%d=y at *
   grind)
  refine⟨b,c,g,?_,j⟩;rw[Xb];simp only[Xo,Xr,reduceIte,Nat.reduceEqDiff,Nat.reduceLeDiff,x194_1,pI,Zw,B.idx o,C,D,F,N,O,m,X7 L,I];simp only[<-wrap_u64,<-wrap_u32,G,WQ];exact i
theorem ic {B:Xs}(c:Std B){la:PL}{a:P'}(o:Us la a)(j:WG a)(w:a.length<10000000000000){d:Nat}(e:0<d)(f:d<4294967296):
  Xu B 194 [.one la,.one (LC d)] (.X9 [.one (.Xn (Uy (Xd (val a / d)))),.one (LC (val a%d))]):=by
 have i:=W3 j;have y:val a / d<4294967296^a.length:=Z7 (Nat.div_le_self _ _) i;have m:=SV c (ws:=dg a.length (val a / d)) (by rw[Wd];omega);rw[Sh y]at m;refine Xu.of (c.Wa _ _ rfl) (((XS.ge (a.length+1)).and (m.Xk.and c.Xk)).mono fun E K ⟨D,e1,x⟩=> ?_);obtain⟨C,z,A,s,⟨t,b⟩,u,v,k,l⟩:=eE (E:=E) (K:=K) o j w 177 e f a.length K (List.replicate a.length 0) 0 (by omega) (Ze _) (by simp) (WG.replicate _) e (by simp[val]);have g:val z=val a / d:=by
  rw[l,Nat.mul_add_div e,YP k];omega
 have h:A=val a%d:=by
  rw[l,Nat.mul_add_mod,Zh k]
 obtain rfl:=TZ v u g;subst h;have p:=UI (n:=a.length) (by omega);have q:4*a.length<=lim:=by unfold lim;omega
 have r:a.length<=9223372036854775807:=by omega
 simp only[Xo,Xr,reduceIte,Nat.reduceEqDiff,Nat.reduceLeDiff,x194,o.len,p,q,r,Ze,Tn,s,t,b,Tx _ (YI (Wd a.length (val a / d))),Vv,Wd,Um,UA,x,X4,e1]
def DE (x:Int):Prop:=x.natAbs<4294967296
theorem uC {B:Xs}(a:Std B){x:Int}(b:DE x):∃c,Xu B 18 [.one (.int .i64 x)] (.agg c)/\Lx c x:=by
 unfold DE at b;obtain⟨c,i,e⟩:∃c,Xu B 49 [.one (.int .i64 x)] (.agg c)/\Tw c x:=by
  cases x with
  |ofNat m=>exact wv a (by simp at b;omega)
  |negSucc m=>exact EC a (by simp at b;omega)
 obtain⟨d,j,f⟩:=wv a (m:=1) (by decide);obtain⟨l,n,g⟩:=e.len;obtain⟨o,p,h⟩:=f.len;subst g h;refine⟨_,Xu.of (a.Wa _ _ rfl) ((i.Xk.and (j.Xk.and a.Xk)).mono fun E K ⟨e1,e2,k⟩=> ?_),⟨_,_,_,_,rfl,e,f⟩⟩;simp(decide:=true)only[Xo,Xr,reduceIte,Nat.reduceAdd,x18,k,X4,e1,e2]
end Go.Proofs.YtidginchkjhobaaGreat
