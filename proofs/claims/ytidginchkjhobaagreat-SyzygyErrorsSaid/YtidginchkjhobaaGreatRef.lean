/- The reference's integers: words. -/
import Derived.Test.YtidginchkjhobaaGreatInt
namespace Go.Proofs.YtidginchkjhobaaGreat
open Go.Ev Go.Num
theorem O8 {E:Xa}{K:Nat}{l:PL}{a:List Nat}(s:Ui l a)(g:a.length<9223372036854775808):∀(n k:Nat) (H:List Xz),n<k->n<=a.length->
  ∃b,Xb E K 0 [0,3] x139_1 k ⟨[(0,.one (.p l)),(3,.one (.p (.int .i64 (.ofNat n))))],H⟩=some (.exit 0,⟨b,H⟩)/\Xh b 0=some (.one (.p l))/\Xh b 3=some (.one (.p (.int .i64 (.ofNat (Va (a.take n)).length))))
 |_,0,_,h,_=>by omega
 |0,k+1,H,_,_=>by
  apply VE
  ·rw[Xb];simp only[Xm,Xq,reduceIte,Nat.reduceEqDiff,x139_1,Zx];rfl
  ·simp only[Xm,reduceIte,Nat.reduceEqDiff,Va,and_self]
 |n+1,k+1,H,hk,hn=>by
  obtain⟨w,c⟩:∃w,a[n]? =some w:=⟨_,Zf (by omega)⟩;have d:Xe .i64 (Int.ofNat (n+1)-Int.ofNat 1)=Int.ofNat n:=Wj (by omega) (by omega);rw[iT c,ba];by_cases h0:w=0
  ·subst h0;obtain⟨b,e,f⟩:=O8 s g n k H (by omega) (by omega);refine⟨b,?_,f⟩;rw[Xb];simp only[Xm,Xq,reduceIte,Nat.reduceEqDiff,x139_1,YP,d,s.idx c];exact e
  ·apply VE
   ·rw[Xb];simp only[Xm,Xq,reduceIte,Nat.reduceEqDiff,x139_1,YP,d,s.idx c,h0];rfl
   ·simp only[Xm,reduceIte,Nat.reduceEqDiff,h0,Zk,ZO,Yt (show n<=a.length by omega),and_self]
theorem Se {B:Xs}(g:Std B){ws:List Nat}(i:ws.length<9223372036854775808):Xx B 139 [.one (.Xp (Ub ws))] (.one (.Xp (Ub (Va ws)))):=by
 have s:Ui (.Xp (Ub ws)) ws:=.Xp;refine Xx.of (g.Wa _ _ rfl) ((X1.ge (ws.length+1)).mono fun E K k=> ?_);obtain⟨j,d,e,b⟩:=O8 (E:=E) (K:=K) s i ws.length K [] (by omega) (Zh _);rw[Yv]at b;have a:∀h,WI 1 h (.p (.Xp (Ub ws))) 0 (some (Va ws).length)=some (.p (.Xp (Ub (Va ws))),[]):=by
  intro h;obtain⟨r,a,c⟩:=s.upto (n:=(Va ws).length) (NO ws);have:=a h;rw[<-dN]at c;rcases c with rfl|⟨-,rfl⟩
  ·exact this
  ·simp only[WI]at this;obtain⟨-,f⟩:=Xv this;simp at f
 simp only[Xm,Xq,reduceIte,Nat.reduceEqDiff,Nat.reduceLeDiff,x139,s.len,d,e,b,a]
theorem u5 {B:Xs}(g:Std B){l:PL}{a:List Nat}(s:Ui l a)(h:a.length<9223372036854775808):∃r,Xx B 139 [.one l] (.one r)/\Ui r (Va a):=by
 obtain⟨r,f,c⟩:=s.upto (n:=(Va a).length) (NO a);rw[<-dN]at c;refine⟨r,Xx.of (g.Wa _ _ rfl) ((X1.ge (a.length+1)).mono fun E K j=> ?_),c⟩;obtain⟨i,d,e,b⟩:=O8 (E:=E) (K:=K) s h a.length K [] (by omega) (Zh _);rw[Yv]at b;simp only[Xm,Xq,reduceIte,Nat.reduceEqDiff,Nat.reduceLeDiff,x139,s.len,d,e,b,f]
theorem O4 {E:Xa}{K:Nat}{s t:PL}{a b:List Nat}(i:Ui s a)(j:Ui t b)(q:Wz a)(r:Wz b)(l:a.length=b.length)(A:a.length<1000000000000):∀(n k:Nat) (H:List Xz),n<k->n<=a.length->
  ∃c d,Xb E K 0 [0,1,5] x127_1 k ⟨[(0,.one (.p s)),(1,.one (.p t)),(5,.one (.p (.int .i64 (pI n))))],H⟩=some (c,⟨d,H⟩)/\
   ((val (a.take n)=val (b.take n)/\c=.exit 0)\/(val (a.take n)<val (b.take n)/\c=.ret/\Xh d 4=some (.one (.p (.int .i64 (.negSucc 0)))))\/(val (b.take n)<val (a.take n)/\c=.ret/\Xh d 4=some (.one (.p (.int .i64 (.ofNat 1))))))
 |_,0,_,h,_=>by omega
 |0,k+1,H,_,_=>by
  refine⟨.exit 0,?_⟩;apply VE
  ·rw[Xb];simp only[Xm,Xq,reduceIte,Nat.reduceEqDiff,x127_1,pI];rfl
  ·exact .inl ⟨rfl,rfl⟩
 |n+1,k+1,H,hk,hn=>by
  obtain⟨w,g⟩:∃w,a[n]? =some w:=⟨_,Zf (by omega)⟩;obtain⟨v,f⟩:∃v,b[n]? =some v:=⟨_,Zf (by omega)⟩;have z:=Uk (n:=n) (by omega);have B:val (a.take n)<4294967296^n:=by
   have:=WW (ws:=a.take n) (fun x m=>q x (YM m))
   rwa[ZO,Yt (by omega)]at this
  have C:val (b.take n)<4294967296^n:=by
   have:=WW (ws:=b.take n) (fun x m=>r x (YM m))
   rwa[ZO,Yt (by omega)]at this
  rw[Vl g,Vl f];by_cases e:w=v
  ·subst e;obtain⟨c,d,u,y⟩:=O4 i j q r l A n k H (by omega) (by omega);refine⟨c,d,?_,y.imp (fun h=>⟨by omega,h.2⟩) fun h=>h.imp (fun h=>⟨by omega,h.2⟩) fun h=>⟨by omega,h.2⟩⟩;rw[Xb];simp only[Xm,Xq,reduceIte,Nat.reduceEqDiff,x127_1,pI,Zt,i.idx g,j.idx f,z,Zx];exact u
  ·by_cases o:w<v
   ·have:=Zp (4294967296^n) (show w+1<=v from o);rw[ZG,ZZ]at this;refine⟨.ret,?_⟩;apply VE
    ·rw[Xb];simp only[Xm,Xq,reduceIte,Nat.reduceEqDiff,x127_1,pI,Zt,i.idx g,j.idx f,o];rfl
    ·exact .inr (.inl ⟨by omega,rfl,by simp only[Xm,reduceIte,Nat.reduceEqDiff]⟩)
   ·have:=Zp (4294967296^n) (show v+1<=w by omega);rw[ZG,ZZ]at this;refine⟨.ret,?_⟩;apply VE
    ·rw[Xb];simp only[Xm,Xq,reduceIte,Nat.reduceEqDiff,x127_1,pI,Zt,i.idx g,j.idx f,o,show v<w by omega];rfl
    ·exact .inr (.inr ⟨by omega,rfl,by simp only[Xm,reduceIte,Nat.reduceEqDiff]⟩)
theorem aF {B:Xs}(s:Std B){o p:PL}{a b:List Nat}(f:Ui o a)(g:Ui p b)(j:Wz a)(m:Wz b)(r:Canon a)(l:Canon b)(t:a.length<1000000000000)(x:b.length<1000000000000):
  Xx B 127 [.one o,.one p] (.one (.int .i64 (iF (val a) (val b)))):=by
 refine Xx.of (s.Wa _ _ rfl) ((X1.ge (a.length+1)).mono fun E K w=> ?_);by_cases c:a.length=b.length
 ·obtain⟨v,u,k,d⟩:=O4 (E:=E) (K:=K) f g j m c t a.length K [] (by omega) (Zh _);rw[Yv,c,Yv]at d;rw[c]at k;have i:=Uk (n:=b.length) (by omega);unfold iF;rcases d with⟨e,rfl⟩|⟨e,rfl,d⟩|⟨e,rfl,d⟩
  ·simp only[Xm,Xq,reduceIte,Nat.reduceEqDiff,Nat.reduceLeDiff,x127,f.len,g.len,c,Zx,i,k,e,Zx]
  ·simp only[Xm,Xq,reduceIte,Nat.reduceEqDiff,Nat.reduceLeDiff,x127,f.len,g.len,c,Zx,i,k,e,d]
  ·simp only[Xm,Xq,reduceIte,Nat.reduceEqDiff,Nat.reduceLeDiff,x127,f.len,g.len,c,Zx,i,k,e,d,Nat.lt_asymm e]
 ·have q:∀{a b:List Nat},Wz a->Canon b->a.length<b.length->val a<val b:=by
   intro a b j l h;have i:=Z2 (WW j) (Vj (Nat.le_of_lt_succ (by omega:a.length<b.length-1+1)));exact Z2 i (QF l (by omega))
  unfold iF;by_cases h:a.length<b.length
  ·have e:=q j l h;simp only[Xm,Xq,reduceIte,Nat.reduceEqDiff,Nat.reduceLeDiff,x127,f.len,g.len,h,e]
  ·have e:=q m r (by omega);simp only[Xm,Xq,reduceIte,Nat.reduceEqDiff,Nat.reduceLeDiff,x127,f.len,g.len,h,show b.length<a.length by omega,e,Nat.lt_asymm e]
theorem Rn {B:Xs}(e:Std B){l:PL}{a:List Nat}(s:Ui l a)(d:Wz a)(i:Nat):Xx B 163 [.one l,.one (.int .i64 (.ofNat i))] (.one (.int .u64 (.ofNat (a[i]?.getD 0)))):=by
 refine Xx.of (e.Wa _ _ rfl) (X1.of fun K n=> ?_);by_cases h:i<a.length
 ·obtain⟨w,b⟩:∃w,a[i]? =some w:=⟨_,Zf h⟩;have c:w%18446744073709551616=w:=Zg (by have:=d.get b;omega);simp only[Xm,Xq,reduceIte,Nat.reduceEqDiff,Nat.reduceLeDiff,x163,s.len,h,s.idx b,c,b,Option.getD_some]
 ·have b:a[i]? =none:=YB (by omega);simp only[Xm,Xq,reduceIte,Nat.reduceEqDiff,Nat.reduceLeDiff,x163,s.len,h,b,Option.getD_none]
theorem TS {a:List Nat}(d:Wz a)(i:Nat):a[i]?.getD 0<4294967296:=by
 cases h:a[i]? with
 |none=>simp
 |some w=>exact d.get h
theorem gO {E:Xa}{K:Nat}{z A:PL}{a b:List Nat}(B:Wz a)(C:Wz b){n:Nat}(T:n<1000000000000)(L:E.mode=md)
  (D:∀i,i<n->E.pure 163 [.one z,.one (.int .i64 (.ofNat i))]=some (.one (.int .u64 (.ofNat (a[i]?.getD 0)))))
  (F:∀i,i<n->E.pure 163 [.one A,.one (.int .i64 (.ofNat i))]=some (.one (.int .u64 (.ofNat (b[i]?.getD 0))))) (t:Nat):
  ∀(d i k:Nat) (r:List Nat) (c:Nat),i+d=n->d<k->r.length=n->Wz r->c<2->(∀j,i<=j->j<n->r[j]? =some 0)->val r+c*4294967296^i=val (a.take i)+val (b.take i)->
  ∃e l f,Xb E K 0 [0,1,5,6,7,8] x126_1 k ⟨[(0,.one (.p z)),(1,.one (.p A)),(5,.one (.p (.int .i64 (.ofNat n)))),(6,.one (.own 0 0 0 n)),(7,.one (.p (.int .u64 (.ofNat c)))),(8,.one (.p (.int .i64 (.ofNat i))))],[⟨false,0,1,Wi r,false,t⟩]⟩=some (.exit 0,⟨e,[⟨false,0,1,Wi l,false,t⟩]⟩)/\
   Xh e 6=some (.one (.own 0 0 0 n))/\l.length=n/\Wz l/\val l+f*4294967296^n=val (a.take n)+val (b.take n)
 |_,_,0,_,_,_,h,_,_,_,_,_=>by omega
 |0,i,k+1,r,c,hi,_,h1,h2,h3,h4,h5=>by
  obtain rfl:i=n:=by omega
  have :∃e,Xb E K 0 [0,1,5,6,7,8] x126_1 (k+1) ⟨[(0,.one (.p z)),(1,.one (.p A)),(5,.one (.p (.int .i64 (.ofNat i)))),(6,.one (.own 0 0 0 i)),(7,.one (.p (.int .u64 (.ofNat c)))),(8,.one (.p (.int .i64 (.ofNat i))))],[⟨false,0,1,Wi r,false,t⟩]⟩=some (.exit 0,⟨e,[⟨false,0,1,Wi r,false,t⟩]⟩)/\Xh e 6=some (.one (.own 0 0 0 i)):=by
   apply VE
   ·rw[Xb];simp only[Xm,Xq,reduceIte,Nat.reduceEqDiff,x126_1,Zx];rfl
   ·simp only[Xm,reduceIte,Nat.reduceEqDiff]
  obtain⟨e,q,s⟩:=this;exact⟨e,r,c,q,s,h1,h2,h5⟩
 |d+1,i,k+1,r,c,hi,hk,h1,h2,h3,h4,h5=>by
  have g:i<n:=by omega
  have V:=TS B i;have U:=TS C i;have m:=D i g;have o:=F i g;have P:=aZ a i;have Q:=aZ b i;generalize a[i]?.getD 0=w at *;generalize b[i]?.getD 0=v at *;have M:=h4 i (Zh _) (by omega);have G:(w+v)%18446744073709551616=w+v:=Zg (by omega);have H:(w+v+c)%18446744073709551616=w+v+c:=Zg (by omega);have R:Xe .i64 (.ofNat (i+1))=.ofNat (i+1):=wrap_i64 (by omega);have I:(w+v+c)%4294967296%4294967296=(w+v+c)%4294967296:=Nat.mod_mod _ _;have J:(w+v+c) / 4294967296%18446744073709551616=(w+v+c) / 4294967296:=Zg (by omega);have N:U8 .u64 (.ofNat (w+v+c)) (.ofNat 4294967296)=some (.p (.int .u64 (.ofNat ((w+v+c)%4294967296)))):=rfl;have O:Tz .u64 (.ofNat (w+v+c)) (.ofNat 4294967296)=some (.p (.int .u64 (Xe .u64 (.ofNat ((w+v+c) / 4294967296))))):=rfl;obtain⟨e,l,f,q,s⟩:=gO B C T L D F t d (i+1) k (r.set i ((w+v+c)%4294967296)) ((w+v+c) / 4294967296) (by omega) (by omega) (by simpa using h1) (h2.set i (by omega)) (by omega)
   (fun j S u=>by rw[ZM (by omega)];exact h4 j (by omega) u) (by
    have e1:=Tm (w:=(w+v+c)%4294967296) M;rw[P,Q];have e2:(w+v+c)%4294967296+4294967296*((w+v+c) / 4294967296)=w+v+c:=Nat.mod_add_div _ _;rw[ZK];clear I J N O G H;generalize (w+v+c)%4294967296=x at *;generalize (w+v+c) / 4294967296=y at *;generalize 4294967296^i=p at *
    grind)
  refine⟨e,l,f,?_,s⟩;rw[Xb];simp only[Xm,Xq,reduceIte,Nat.reduceEqDiff,Nat.reduceLeDiff,x126_1,g,L,X5,m,o,G,H,R,I,J,N,O,X2 M,WH];exact q
theorem jZ {B:Xs}(d:Std B){m lb:PL}{a b:List Nat}(o:Ui m a)(q:Ui lb b)(e:Wz a)(f:Wz b)(N:a.length<100000000000)(O:b.length<100000000000):
  Xx B 126 [.one m,.one lb] (.one (.Xp (Ub (Xd (val a+val b))))):=by
 obtain⟨n,Q⟩:∃n,n=max a.length b.length+1:=⟨_,rfl⟩;have H:val a+val b<4294967296^n:=by
  have g:=Z2 (WW e) (Vj (show a.length<=n-1 by omega));have L:=Z2 (WW f) (Vj (show b.length<=n-1 by omega));have :4294967296^n=4294967296^(n-1)*4294967296:=by rw[<-ZK];congr 1;omega
  omega
 have g:=Se d (ws:=dg n (val a+val b)) (by rw[X9];omega);rw[TJ H]at g;refine Xx.of (d.Wa _ _ rfl) (((X1.ge (n+1)).and (g.Xj.and (d.Xj.and ((X1.all n fun i _=>(Rn d o e i).Xj).and (X1.all n fun i _=>(Rn d q f i).Xj))))).mono fun E K ⟨M,e1,l,r,s⟩=> ?_);obtain⟨J,I,c,z,A,C,D,F⟩:=gO (E:=E) (K:=K) e f (show n<1000000000000 by omega) l r s 177 n 0 K (List.replicate n 0) 0 (by omega) (by omega) (by simp) (Wz.replicate _) (by decide)
  (fun j _ P=>by rw[Yd,if_pos (by omega)]) (by rw[VO];simp[val])
 rw[Zd (show a.length<=n by omega),Zd (show b.length<=n by omega)]at F;have k:I=dg n (val a+val b):=by
  have G:c=0:=by
   rcases Yh c with h|h
   ·exact h
   ·have:=Zp (4294967296^n) h;omega
  subst G;exact Tx D C (by omega)
 subst k;have t:maxD Tf .i64 (.ofNat a.length) [.one (.p (.int .i64 (.ofNat b.length)))]=some (.one (.p (.int .i64 (.ofNat (n-1))))):=by
  simp only[maxD,dG,zf,YW,cond_true,Nk];by_cases h:a.length<b.length
  ·simp only[h,decide_true,cond_true];congr 5;omega
  ·simp only[h,decide_false,cond_false];congr 5;omega
 have u:Xe .i64 (.ofNat (n-1+1))=.ofNat n:=by rw[show n-1+1=n by omega];exact wrap_i64 (by omega)
 have w:4*n<=lim:=by unfold lim;omega
 have x:n<=9223372036854775807:=by omega
 have y:∀v,Rx Tf (.one (.p (.int .i64 (.ofNat a.length)))::v)=(match maxD Tf .i64 (.ofNat a.length) v with |some v=>some ⟨v,[],[],[]⟩|none=>none):=fun _=>rfl
 simp only[Xm,Xq,reduceIte,Nat.reduceEqDiff,Nat.reduceLeDiff,x126,o.len,q.len,y,t,u,w,x,Zh,U0,z,A,U5 _ (Y0 (X9 n (val a+val b))),Vd,X9,VX,Uf,l,X5,e1]
theorem Qd {a b:Nat}(h:b<=a)(c:a<18446744073709551616):Xe .u64 (.ofNat a-.ofNat b)=.ofNat (a-b):=by
 rw[TM h,wrap_u64,Zg (by omega)]
theorem eH {E:Xa}{K:Nat}{B C:PL}{a b:List Nat}(m:Ui B a)(D:Wz a)(F:Wz b)(W:a.length<1000000000000)(L:E.mode=md)
  (G:∀i,i<a.length->E.pure 163 [.one C,.one (.int .i64 (.ofNat i))]=some (.one (.int .u64 (.ofNat (b[i]?.getD 0))))) (t:Nat):
  ∀(d i k:Nat) (r:List Nat) (c:Nat),i+d=a.length->d<k->r.length=a.length->Wz r->c<2->(∀j,i<=j->j<a.length->r[j]? =some 0)->val r+val (b.take i)=val (a.take i)+c*4294967296^i->
  ∃e g f,Xb E K 0 [0,1,5,6,7] x128_1 k ⟨[(0,.one (.p B)),(1,.one (.p C)),(5,.one (.own 0 0 0 a.length)),(6,.one (.p (.int .u64 (.ofNat c)))),(7,.one (.p (.int .i64 (.ofNat i))))],[⟨false,0,1,Wi r,false,t⟩]⟩=some (.exit 0,⟨e,[⟨false,0,1,Wi g,false,t⟩]⟩)/\
   Xh e 5=some (.one (.own 0 0 0 a.length))/\g.length=a.length/\Wz g/\val g+val (b.take a.length)=val a+f*4294967296^a.length
 |_,_,0,_,_,_,h,_,_,_,_,_=>by omega
 |0,i,k+1,r,c,hi,_,h1,h2,h3,h4,h5=>by
  obtain rfl:i=a.length:=by omega
  rw[Yv]at h5;have :∃e,Xb E K 0 [0,1,5,6,7] x128_1 (k+1) ⟨[(0,.one (.p B)),(1,.one (.p C)),(5,.one (.own 0 0 0 a.length)),(6,.one (.p (.int .u64 (.ofNat c)))),(7,.one (.p (.int .i64 (.ofNat a.length))))],[⟨false,0,1,Wi r,false,t⟩]⟩=some (.exit 0,⟨e,[⟨false,0,1,Wi r,false,t⟩]⟩)/\
    Xh e 5=some (.one (.own 0 0 0 a.length)):=by
   apply VE
   ·rw[Xb];simp only[Xm,Xq,reduceIte,Nat.reduceEqDiff,x128_1,m.len,Zx];rfl
   ·simp only[Xm,reduceIte,Nat.reduceEqDiff]
  obtain⟨e,q,u⟩:=this;exact⟨e,r,c,q,u,h1,h2,h5⟩
 |d+1,i,k+1,r,c,hi,hk,h1,h2,h3,h4,h5=>by
  obtain⟨w,A⟩:∃w,a[i]? =some w:=⟨_,Zf (by omega)⟩;have l:i<a.length:=by omega
  have Y:=D.get A;have M:=h4 i (Zh _) (by omega);have X:=TS F i;have n:=G i l;have Q:=aZ b i;generalize b[i]?.getD 0=v at *;have R:w%18446744073709551616=w:=Zg (by omega);have S:(4294967296+w)%18446744073709551616=4294967296+w:=Zg (by omega);have T:Xe .i64 (.ofNat (i+1))=.ofNat (i+1):=wrap_i64 (by omega);have U:=Qd (a:=4294967296+w) (b:=v) (by omega) (by omega);have o:=Qd (a:=4294967296+w-v) (b:=c) (by omega) (by omega);obtain⟨s,N⟩:∃s,s=4294967296+w-v-c:=⟨_,rfl⟩;rw[<-N]at o;have H:s%4294967296%4294967296=s%4294967296:=Nat.mod_mod _ _;have I:s / 4294967296%18446744073709551616=s / 4294967296:=Zg (by omega);have J:=Qd (a:=1) (b:=s / 4294967296) (by omega) (by omega);have O:U8 .u64 (.ofNat s) (.ofNat 4294967296)=some (.p (.int .u64 (.ofNat (s%4294967296)))):=rfl;have P:Tz .u64 (.ofNat s) (.ofNat 4294967296)=some (.p (.int .u64 (Xe .u64 (.ofNat (s / 4294967296))))):=rfl;have Z:s%4294967296+c+v=w+4294967296*(1-s / 4294967296):=by omega
  obtain⟨e,g,f,q,u⟩:=eH m D F W L G t d (i+1) k (r.set i (s%4294967296)) (1-s / 4294967296) (by omega) (by omega) (by simpa using h1) (h2.set i (by omega)) (by omega)
   (fun j V z=>by rw[ZM (by omega)];exact h4 j (by omega) z) (by
    have e1:=Tm (w:=s%4294967296) M;rw[Vl A,Q,ZK];clear O P H I J o N;generalize s%4294967296=x at *;generalize 1-s / 4294967296=y at *;generalize 4294967296^i=p at *
    grind)
  refine⟨e,g,f,?_,u⟩;rw[Xb];simp only[Xm,Xq,reduceIte,Nat.reduceEqDiff,Nat.reduceLeDiff,x128_1,m.len,l,m.idx A,L,X5,n,R,S,T,U,o,H,I,J,O,P,X2 M,WH];exact q
theorem bh {B:Xs}(d:Std B){q r:PL}{a b:List Nat}(s:Ui q a)(C:Ui r b)(k:Wz a)(l:Wz b)(e:b.length<=a.length)(H:a.length<100000000000)(I:val b<=val a):
  Xx B 128 [.one q,.one r] (.one (.Xp (Ub (Xd (val a-val b))))):=by
 have z:=WW k;have o:=Se d (ws:=dg a.length (val a-val b)) (by rw[X9];omega);rw[TJ (by omega)]at o;refine Xx.of (d.Wa _ _ rfl) (((X1.ge (a.length+1)).and (o.Xj.and (d.Xj.and (X1.all a.length fun i _=>(Rn d C l i).Xj)))).mono fun E K ⟨F,e1,p,t⟩=> ?_);obtain⟨D,A,c,w,x,m,n,y⟩:=eH (E:=E) (K:=K) s k l (by omega) p t 177 a.length 0 K (List.replicate a.length 0) 0 (by omega) (by omega) (by simp) (Wz.replicate _) (by decide)
  (fun j _ G=>by rw[Yd,if_pos (by omega)]) (by rw[VO];simp[val])
 rw[Zd e]at y;have g:A=dg a.length (val a-val b):=by
  have:=WW n;rw[m]at this;have f:c=0:=by
   rcases Yh c with h|h
   ·exact h
   ·have:=Zp (4294967296^a.length) h;omega
  subst f;exact Tx n m (by omega)
 subst g;have u:4*a.length<=lim:=by unfold lim;omega
 have v:a.length<=9223372036854775807:=by omega
 simp only[Xm,Xq,reduceIte,Nat.reduceEqDiff,Nat.reduceLeDiff,x128,s.len,u,v,Zh,U0,w,x,U5 _ (Y0 (X9 a.length (val a-val b))),Vd,X9,VX,Uf,p,X5,e1]
theorem mS {E:Xa}{K:Nat}{n o:PL}{a b:List Nat}(Y:Ui n a)(B:Ui o b)(P:Wz b)(hl:a.length+b.length<1000000000000)(t:Nat){i x:Nat}(F:a[i]? =some x)(X:x<4294967296)(V:Nat):
  ∀(d j k:Nat) (r:List Nat) (e:Nat),j+d=b.length->d<k->r.length=a.length+b.length->Wz r->e<4294967296->(∀p,i+b.length<=p->p<a.length+b.length->r[p]? =some 0)->val r+e*4294967296^(i+j)+x*4294967296^(i+j)*val (b.drop j)=V->
  ∃c l f,Xb E K 0 [0,1,5,6,7,8] x129_1 k ⟨[(0,.one (.p n)),(1,.one (.p o)),(5,.one (.own 0 0 0 (a.length+b.length))),(6,.one (.p (.int .i64 (.ofNat i)))),(7,.one (.p (.int .u64 (.ofNat e)))),(8,.one (.p (.int .i64 (.ofNat j))))],[⟨false,0,1,Wi r,false,t⟩]⟩=some (.exit 2,⟨c,[⟨false,0,1,Wi l,false,t⟩]⟩)/\
   (Xh c 0=some (.one (.p n))/\Xh c 1=some (.one (.p o))/\Xh c 5=some (.one (.own 0 0 0 (a.length+b.length)))/\Xh c 6=some (.one (.p (.int .i64 (.ofNat i))))/\Xh c 7=some (.one (.p (.int .u64 (.ofNat f)))))/\l.length=a.length+b.length/\Wz l/\f<4294967296/\(∀p,i+b.length<=p->p<a.length+b.length->l[p]? =some 0)/\val l+f*4294967296^(i+b.length)=V
 |_,_,0,_,_,_,h,_,_,_,_,_=>by omega
 |0,j,k+1,r,e,hj,_,h1,h2,h3,h4,h5=>by
  obtain rfl:j=b.length:=by omega
  have :∃c,Xb E K 0 [0,1,5,6,7,8] x129_1 (k+1) ⟨[(0,.one (.p n)),(1,.one (.p o)),(5,.one (.own 0 0 0 (a.length+b.length))),(6,.one (.p (.int .i64 (.ofNat i)))),(7,.one (.p (.int .u64 (.ofNat e)))),(8,.one (.p (.int .i64 (.ofNat b.length))))],[⟨false,0,1,Wi r,false,t⟩]⟩=some (.exit 2,⟨c,[⟨false,0,1,Wi r,false,t⟩]⟩)/\(Xh c 0=some (.one (.p n))/\Xh c 1=some (.one (.p o))/\Xh c 5=some (.one (.own 0 0 0 (a.length+b.length)))/\Xh c 6=some (.one (.p (.int .i64 (.ofNat i))))/\Xh c 7=some (.one (.p (.int .u64 (.ofNat e))))):=by
   apply VE
   ·rw[Xb];simp only[Xm,Xq,reduceIte,Nat.reduceEqDiff,x129_1,B.len,Zx];rfl
   ·simp only[Xm,reduceIte,Nat.reduceEqDiff,and_self]
  obtain⟨c,A,D⟩:=this;refine⟨c,r,e,A,D,h1,h2,h3,h4,?_⟩;rw[List.drop_length]at h5;simpa[val]using h5
 |d+1,j,k+1,r,e,hj,hk,h1,h2,h3,h4,h5=>by
  have a0:i<a.length:=(Zb.1 F).1;have m:j<b.length:=by omega
  obtain⟨v,L⟩:∃v,b[j]? =some v:=⟨_,Zf m⟩;obtain⟨u,I⟩:∃u,r[i+j]? =some u:=⟨_,Zf (by omega)⟩;have M:=P.get L;have J:=h2.get I;have U:=Tc X M J h3;have Z:x%18446744073709551616=x:=Zg (by omega);have Q:v%18446744073709551616=v:=Zg (by omega);have R:u%18446744073709551616=u:=Zg (by omega);have S:(x*v)%18446744073709551616=x*v:=Zg (by omega);have T:(x*v+u)%18446744073709551616=x*v+u:=Zg (by omega);have q:(x*v+u+e)%18446744073709551616=x*v+u+e:=Zg U;have f6:Xe .i64 (.ofNat (i+j))=.ofNat (i+j):=wrap_i64 (by omega);have f7:Xe .i64 (.ofNat (j+1))=.ofNat (j+1):=wrap_i64 (by omega);have f8:i+j<a.length+b.length:=by omega
  obtain⟨s,W⟩:∃s,s=x*v+u+e:=⟨_,rfl⟩;rw[<-W]at q;have C:s%4294967296%4294967296=s%4294967296:=Nat.mod_mod _ _;have g:s / 4294967296%18446744073709551616=s / 4294967296:=Zg (by omega);have N:U8 .u64 (.ofNat s) (.ofNat 4294967296)=some (.p (.int .u64 (.ofNat (s%4294967296)))):=rfl;have O:Tz .u64 (.ofNat s) (.ofNat 4294967296)=some (.p (.int .u64 (Xe .u64 (.ofNat (s / 4294967296))))):=rfl;obtain⟨c,l,f,A,D⟩:=mS Y B P hl t F X V d (j+1) k (r.set (i+j) (s%4294967296)) (s / 4294967296) (by omega) (by omega) (by simpa using h1) (h2.set _ (by omega)) (by omega)
   (fun p G H=>by rw[ZM (by omega)];exact h4 p G H) (by
    have e1:=Tm (w:=s%4294967296) I;rw[Pz L]at h5;have e2:s%4294967296+4294967296*(s / 4294967296)=s:=Nat.mod_add_div _ _;rw[show i+(j+1)=(i+j)+1 by omega,ZK];clear U S T q Q R N O C g;generalize s%4294967296=y at *;generalize s / 4294967296=z at *;generalize 4294967296^(i+j)=p at *
    grind)
  refine⟨c,l,f,?_,D⟩;rw[W]at q N O C g A;rw[Xb];simp only[Xm,Xq,reduceIte,Nat.reduceEqDiff,Nat.reduceLeDiff,x129_1,B.len,m,Y.idx F,B.idx L,Z,Q,R,S,T,q,f6,f7,f8,C,g,N,O,X2 I,WH];exact A
theorem iR {E:Xa}{K:Nat}{s u:PL}{a b:List Nat}(j:Ui s a)(z:Ui u b)(B:Wz a)(C:Wz b)(F:a.length+b.length<1000000000000)(D:b.length<K)(t:Nat):
  ∀(d i k:Nat) (r:List Nat),i+d=a.length->d<k->r.length=a.length+b.length->Wz r->(∀p,i+b.length<=p->p<a.length+b.length->r[p]? =some 0)->val r=val (a.take i)*val b->
  ∃c e,Xb E K 0 [0,1,5,6] x129_2 k ⟨[(0,.one (.p s)),(1,.one (.p u)),(5,.one (.own 0 0 0 (a.length+b.length))),(6,.one (.p (.int .i64 (.ofNat i))))],[⟨false,0,1,Wi r,false,t⟩]⟩=some (.exit 0,⟨c,[⟨false,0,1,Wi e,false,t⟩]⟩)/\
   Xh c 5=some (.one (.own 0 0 0 (a.length+b.length)))/\e.length=a.length+b.length/\Wz e/\val e=val a*val b
 |_,_,0,_,_,h,_,_,_,_=>by omega
 |0,i,k+1,r,hi,_,h1,h2,h3,h4=>by
  obtain rfl:i=a.length:=by omega
  rw[Yv]at h4;have :∃c,Xb E K 0 [0,1,5,6] x129_2 (k+1) ⟨[(0,.one (.p s)),(1,.one (.p u)),(5,.one (.own 0 0 0 (a.length+b.length))),(6,.one (.p (.int .i64 (.ofNat a.length))))],[⟨false,0,1,Wi r,false,t⟩]⟩=some (.exit 0,⟨c,[⟨false,0,1,Wi r,false,t⟩]⟩)/\Xh c 5=some (.one (.own 0 0 0 (a.length+b.length))):=by
   apply VE
   ·rw[Xb];simp only[Xm,Xq,reduceIte,Nat.reduceEqDiff,x129_2,j.len,Zx];rfl
   ·simp only[Xm,reduceIte,Nat.reduceEqDiff]
  obtain⟨c,l,m⟩:=this;exact⟨c,r,l,m,h1,h2,h4⟩
 |d+1,i,k+1,r,hi,hk,h1,h2,h3,h4=>by
  have f:i<a.length:=by omega
  obtain⟨x,o⟩:∃x,a[i]? =some x:=⟨_,Zf f⟩;have q:=B.get o;obtain⟨V,U,A,M,⟨O,P,Q,R,S⟩,T,v,y,g,N⟩:=mS (E:=E) (K:=K) j z C F t o q (val r+x*4294967296^i*val b) b.length 0 K r 0 (by omega) D h1 h2 (by decide) h3 (by simp);have G:=g (i+b.length) (Zh _) (by omega);obtain⟨c,e,l,m⟩:=iR j z B C F D t d (i+1) k (U.set (i+b.length) (A%4294967296)) (by omega) (by omega) (by simpa using T) (v.set _ (by omega))
   (fun p L n=>by rw[ZM (by omega)];exact g p (by omega) n) (by
    have e1:=Tm (w:=A%4294967296) G;rw[Zg y]at e1⊢;rw[Vl o,ZG,<-h4];omega)
  refine⟨c,e,?_,m⟩;have H:Xe .i64 (.ofNat (i+1))=.ofNat (i+1):=wrap_i64 (by omega);have I:Xe .i64 (.ofNat (i+b.length))=.ofNat (i+b.length):=wrap_i64 (by omega);have J:i+b.length<a.length+b.length:=by omega
  rw[Xb];simp only[Xm,Xq,reduceIte,Nat.reduceEqDiff,Nat.reduceLeDiff,x129_2,j.len,z.len,f,H,I,J,M,O,P,Q,R,S,X2 G,WH];exact l
theorem bg {B:Xs}(c:Std B){i lb:PL}{a b:List Nat}(k:Ui i a)(l:Ui lb b)(f:Wz a)(g:Wz b)(u:a.length+b.length<1000000000000):
  Xx B 129 [.one i,.one lb] (.one (.Xp (Ub (Xd (val a*val b))))):=by
 have d:=WW f;have e:=WW g;have h:=Se c (ws:=dg (a.length+b.length) (val a*val b)) (by rw[X9];omega);rw[TJ (by rw[Y2];exact Nat.mul_lt_mul'' d e)]at h;refine Xx.of (c.Wa _ _ rfl) (((X1.ge (a.length+b.length+1)).and (h.Xj.and c.Xj)).mono fun E K ⟨x,e1,v⟩=> ?_);obtain⟨w,z,p,q,r,s,t⟩:=iR (E:=E) (K:=K) k l f g u (by omega) 177 a.length 0 K (List.replicate (a.length+b.length) 0) (by omega) (by omega) (by simp) (Wz.replicate _)
  (fun j _ y=>by rw[Yd,if_pos (by omega)]) (by rw[VO];simp[val])
 obtain rfl:=Tx s r t;have m:Xe .i64 (.ofNat (a.length+b.length))=.ofNat (a.length+b.length):=wrap_i64 (by omega);have n:4*(a.length+b.length)<=lim:=by unfold lim;omega
 have o:a.length+b.length<=9223372036854775807:=by omega
 simp only[Xm,Xq,reduceIte,Nat.reduceEqDiff,Nat.reduceLeDiff,x129,k.len,l.len,m,n,o,Zh,U0,p,q,U5 _ (Y0 (X9 (a.length+b.length) (val a*val b))),Vd,X9,VX,Uf,v,X5,e1]
theorem VM {B:Xs}(e:Std B){l:PL}{a:List Nat}(neg:Bool)(s:Ui l a)(d:Wz a)(j:a.length<1000000000000):∃c,Xx B 92 [.one (.bool neg),.one l] (.agg c)/\Ta c (if neg then -(val a:Int)else val a):=by
 obtain⟨r,g,b⟩:=u5 e s (by omega);rw[UH d rfl]at b;have i:(if neg then -(val a:Int)else val a).natAbs=val a:=by cases neg<;>simp
 refine⟨[.bool (decide ((if neg then -(val a:Int)else val a)<0)),r],Xx.of (e.Wa _ _ rfl) ((g.Xj.and e.Xj).mono fun E K ⟨e1,f⟩=> ?_),r,rfl,by rw[i];exact b⟩;cases neg with
 |false=>
  have :¬((val a:Int)<0):=by omega
  simp only[Xm,Xq,reduceIte,Nat.reduceEqDiff,Nat.reduceLeDiff,x92,f,X5,e1,this]
 |true=>
  have h:((-(val a:Int))<0)=(0<(Xd (val a)).length):=by
   have:=@WV (val a);simp only[eq_iff_iff];omega
  simp only[Xm,Xq,reduceIte,Nat.reduceEqDiff,Nat.reduceLeDiff,x92,f,X5,e1,b.len,h]
theorem Rv {B:Xs}(a:Std B){m:Nat}(b:m<18446744073709551616):Xx B 93 [.one (.int .u64 (.ofNat m))] (.one (.Xp (Ub (Xd m)))):=by
 have e:Xx B 139 [.one (.Xp [[.int .u32 (.ofNat (m%4294967296))],[.int .u32 (.ofNat (m / 4294967296))]])] (.one (.Xp (Ub (Xd m)))):=by
  have:=Se a (ws:=[m%4294967296,m / 4294967296]) (by simp);rw[UH (n:=m) (Wz.mk (by omega) (Wz.mk (by omega) Wz.nil)) (by simp only[val];omega)]at this;exact this
 refine Xx.of (a.Wa _ _ rfl) ((e.Xj.and a.Xj).mono fun E K ⟨e1,b⟩=> ?_);have f:U8 .u64 (.ofNat m) (.ofNat 4294967296)=some (.p (.int .u64 (.ofNat (m%4294967296)))):=rfl;have g:Tz .u64 (.ofNat m) (.ofNat 4294967296)=some (.p (.int .u64 (Xe .u64 (.ofNat (m / 4294967296))))):=rfl;have c:m%4294967296%4294967296=m%4294967296:=Nat.mod_mod _ _;have d:m / 4294967296%18446744073709551616%4294967296=m / 4294967296:=by omega
 simp only[Xm,Xq,reduceIte,Nat.reduceEqDiff,Nat.reduceLeDiff,Nat.reduceLT,Nat.reduceAdd,x93,f,g,c,d,b,X5,e1]
theorem Py {m:Nat}(h:m<18446744073709551616):(Xd m).length<=2:=Vo (by simpa using h)
theorem sW {B:Xs}(a:Std B){m:Nat}(i:m<9223372036854775808):∃c,Xx B 49 [.one (.int .i64 (.ofNat m))] (.agg c)/\Ta c m:=by
 have g:=Rv a (m:=m) (by omega);have e:=Py (m:=m) (by omega);obtain⟨c,h,b⟩:=VM a false (l:=.Xp (Ub (Xd m))) .Xp (Xo m) (by omega);rw[Xl]at b;refine⟨c,Xx.of (a.Wa _ _ rfl) ((g.Xj.and (h.Xj.and a.Xj)).mono fun E K ⟨e1,e2,d⟩=> ?_),by simpa using b⟩;obtain⟨l,rfl,-⟩:=b;have f:m%18446744073709551616=m:=Zg (by omega);simp only[Xm,Xq,reduceIte,Nat.reduceEqDiff,Nat.reduceLeDiff,Nat.reduceAdd,x49,f,Nat.not_lt_zero,d,X5,e1,e2]
theorem A5 {B:Xs}(a:Std B){m:Nat}(o:m<9223372036854775808):∃c,Xx B 49 [.one (.int .i64 (.negSucc m))] (.agg c)/\Ta c (.negSucc m):=by
 have j:=Rv a (m:=m+1) (by omega);have f:=Py (m:=m+1) (by omega);obtain⟨c,k,b⟩:=VM a true (l:=.Xp (Ub (Xd (m+1)))) .Xp (Xo _) (by omega);rw[Xl]at b;refine⟨c,Xx.of (a.Wa _ _ rfl) ((j.Xj.and (k.Xj.and a.Xj)).mono fun E K ⟨e1,e2,d⟩=> ?_),by simpa[Int.negSucc_eq]using b⟩;obtain⟨l,rfl,-⟩:=b;have g:m%18446744073709551616=m:=Zg (by omega);have h:(m+1)%18446744073709551616=m+1:=Zg (by omega);have i:Xe .i64 (0-Xe .i64 (Int.negSucc m+Int.ofNat 1))=.ofNat m:=by
  cases m with
  |zero=>rfl
  |succ m=>
   have e:(Int.negSucc (m+1)+Int.ofNat 1)=Int.negSucc m:=by simp only[Int.negSucc_eq,ZD];omega
   rw[e];have e2:Xe .i64 (Int.negSucc m)=Int.negSucc m:=by
    have h0:m%18446744073709551616=m:=Zg (by omega);have n:Nat.ble 9223372036854775808 (18446744073709551615-m)=true:=RK (by omega);show UB .i64 (18446744073709551615-m%18446744073709551616)=_;rw[h0];show(bif true&&Nat.ble 9223372036854775808 (18446744073709551615-m)then _ else _)=_;rw[n];show Int.negSucc (18446744073709551616-(18446744073709551615-m)-1)=_;congr 1;omega
   rw[e2,show(0-Int.negSucc m:Int)=Int.ofNat (m+1)by simp only[Int.negSucc_eq,ZD];omega];exact wrap_i64 o
 simp only[Xm,Xq,reduceIte,Nat.reduceEqDiff,Nat.reduceLeDiff,Nat.reduceAdd,x49,i,g,h,d,X5,e1,e2]
theorem bB {B:Xs}(k:Std B){c:List PL}{z:Int}(l:Ta c z):Xx B 77 [.agg c] (.one (.int .i64 (kH z))):=by
 obtain⟨m,rfl,i⟩:=l;refine Xx.of (k.Wa _ _ rfl) (X1.of fun K n=> ?_);unfold kH;by_cases f:z<0
 ·have h0:z≠0:=by omega
  simp only[Xm,Xq,reduceIte,Nat.reduceEqDiff,Nat.reduceLeDiff,Nat.reduceAdd,x77,h0,f]
 ·have d:∀n:Nat,Rx (fun a b=>Tf b a) [.one (.p (.int .i64 (.ofNat n))),.one (.p (.int .i64 (.ofNat 1)))]=some ⟨.one (.p (.int .i64 (.ofNat (if n=0 then 0 else 1)))),[],[],[]⟩:=by
   intro n;simp only[Rx,maxD,dG,zf,YW,cond_true,Nk,Vc.pure];by_cases h:1<n
   ·simp only[h,decide_true,cond_true];rw[if_neg (by omega)]
   ·simp only[h,decide_false,cond_false];rcases Yh n with e|e
    ·rw[if_pos e,e]
    ·rw[if_neg (by omega),show n=1 by omega]
  have g:((Xd z.natAbs).length=0)=(z=0):=by rw[eq_iff_iff,WV];omega
  by_cases h0:z=0
  ·rw[if_pos h0];have j:(Xd z.natAbs).length=0:=by rw[g];exact h0
   simp only[Xm,Xq,reduceIte,Nat.reduceEqDiff,Nat.reduceLeDiff,Nat.reduceAdd,x77,i.len,d,j,f]
  ·simp only[Xm,Xq,reduceIte,Nat.reduceEqDiff,Nat.reduceLeDiff,Nat.reduceAdd,x77,i.len,d,g,h0,f]
theorem xZ {B:Xs}(d:Std B){c:List PL}{z:Int}(g:Ta c z)(j:Sm z):∃a,Xx B 124 [.agg c] (.agg a)/\Ta a (-z):=by
 obtain⟨m,rfl,i⟩:=g;unfold Sm at j;obtain⟨a,f,b⟩:=VM d (!decide (z<0)) i (Xo _) (by omega);rw[Xl]at b;refine⟨a,Xx.of (d.Wa _ _ rfl) ((f.Xj.and d.Xj).mono fun E K ⟨e2,e⟩=> ?_),?_⟩
 ·obtain⟨l,rfl,-⟩:=b;simp(decide:=true)only[Xm,Xq,reduceIte,Nat.reduceAdd,x124,e,X5,e2]
 ·have : -z=(if(!decide (z<0))=true then -(z.natAbs:Int)else z.natAbs):=by
   by_cases h:z<0
   ·simp[h];omega
   ·simp[h];omega
  rw[this];exact b
theorem SQ (m n:Nat):Tf (iF m n) (.ofNat 0)=decide (m<n):=by
 unfold iF;by_cases h:m<n
 ·rw[if_pos h,decide_eq_true h];rfl
 ·rw[if_neg h,decide_eq_false h];split<;>rfl
theorem Rw {B:Xs}(b:Std B){c d:List PL}{x y:Int}(o:Ta c x)(p:Ta d y)(t:Sm x)(u:Sm y):∃e,Xx B 76 [.agg c,.agg d] (.agg e)/\Ta e (x*y):=by
 obtain⟨m,rfl,q⟩:=o;obtain⟨n,rfl,r⟩:=p;unfold Sm at t u;have i:=bg b q r (Xo _) (Xo _) (by omega);rw[Xl,Xl]at i;have a:(Xd (x.natAbs*y.natAbs)).length<1000000000000:=by
  have:=Uv x.natAbs y.natAbs;omega
 obtain⟨e,j,f⟩:=VM b (decide (x<0)!=decide (y<0)) (l:=.Xp (Ub (Xd (x.natAbs*y.natAbs)))) .Xp (Xo _) a;rw[Xl]at f;refine⟨e,Xx.of (b.Wa _ _ rfl) ((i.Xj.and (j.Xj.and b.Xj)).mono fun E K ⟨e1,e2,g⟩=> ?_),?_⟩
 ·obtain⟨l,rfl,-⟩:=f;have s:((decide (x<0)==decide (y<0))!=true)=(decide (x<0)!=decide (y<0)):=by
   cases decide (x<0)<;>cases decide (y<0)<;>rfl
  simp(decide:=true)only[Xm,Xq,reduceIte,Nat.reduceAdd,x76,g,X5,e1,e2,s]
 ·have :x*y=(if(decide (x<0)!=decide (y<0))=true then -((x.natAbs*y.natAbs:Nat):Int)else((x.natAbs*y.natAbs:Nat):Int)):=by
   rw[Int.natCast_mul];by_cases h:x<0<;>by_cases k:y<0
   ·simp only[h,k,decide_true,bne_self_eq_false,Zz,if_false];rw[show(x.natAbs:Int)= -x by omega,show(y.natAbs:Int)= -y by omega];grind
   ·simp only[h,k,decide_true,decide_false,bne_iff_ne,ne_eq,Bool.true_eq_false,not_false_eq_true,if_true];rw[show(x.natAbs:Int)= -x by omega,show(y.natAbs:Int)=y by omega];grind
   ·simp only[h,k,decide_true,decide_false,bne_iff_ne,ne_eq,Zz,not_false_eq_true,if_true];rw[show(x.natAbs:Int)=x by omega,show(y.natAbs:Int)= -y by omega];grind
   ·simp only[h,k,decide_false,bne_self_eq_false,Zz,if_false];rw[show(x.natAbs:Int)=x by omega,show(y.natAbs:Int)=y by omega]
  rw[this];exact f
theorem yo {B:Xs}(b:Std B){c d:List PL}{x y:Int}(w:Ta c x)(z:Ta d y)(A:Sm x)(C:Sm y):∃e,Xx B 75 [.agg c,.agg d] (.agg e)/\Ta e (x+y):=by
 obtain⟨m,rfl,s⟩:=w;obtain⟨n,rfl,t⟩:=z;unfold Sm at A C;by_cases q:decide (x<0)=decide (y<0)
 ·have i:=jZ b s t (Xo _) (Xo _) (by omega) (by omega);rw[Xl,Xl]at i;have a:(Xd (x.natAbs+y.natAbs)).length<1000000000000:=by
   have:=Uw x.natAbs y.natAbs;omega
  obtain⟨e,o,f⟩:=VM b (decide (x<0)) (l:=.Xp (Ub (Xd (x.natAbs+y.natAbs)))) .Xp (Xo _) a;rw[Xl]at f;refine⟨e,Xx.of (b.Wa _ _ rfl) ((i.Xj.and (o.Xj.and b.Xj)).mono fun E K ⟨e1,e2,g⟩=> ?_),?_⟩
  ·obtain⟨l,rfl,-⟩:=f;rw[<-q];have u:(decide (x<0)==decide (x<0))=true:=beq_self_eq_true _;simp(decide:=true)only[Xm,Xq,reduceIte,Nat.reduceAdd,x75,g,X5,e1,e2,u]
  ·have :x+y=(if decide (x<0)=true then -((x.natAbs+y.natAbs:Nat):Int)else((x.natAbs+y.natAbs:Nat):Int)):=by
    by_cases h:x<0
    ·have k:y<0:=by simpa[h]using q
     simp only[h,decide_true,if_true];omega
    ·have k:¬y<0:=by simpa[h]using q
     simp only[h,decide_false,Zz,if_false];omega
   rw[this];exact f
 ·have u:(decide (x<0)==decide (y<0))=false:=by simpa using q
  have h0:=aF b s t (Xo _) (Xo _) (W0 _) (W0 _) (by omega) (by omega);rw[Xl,Xl]at h0;have r:(x<0/\¬y<0)\/(¬x<0/\y<0):=by
   by_cases h:x<0<;>by_cases k:y<0<;>simp[h,k]at q⊢
  by_cases p:y.natAbs<=x.natAbs
  ·have j:¬x.natAbs<y.natAbs:=by omega
   have i:=bh b s t (Xo _) (Xo _) (XM p) (by omega) (by rw[Xl,Xl];exact p);rw[Xl,Xl]at i;have a:(Xd (x.natAbs-y.natAbs)).length<1000000000000:=by
    have:=XM (Nat.sub_le x.natAbs y.natAbs);omega
   obtain⟨e,o,f⟩:=VM b (decide (x<0)) (l:=.Xp (Ub (Xd (x.natAbs-y.natAbs)))) .Xp (Xo _) a;rw[Xl]at f;refine⟨e,Xx.of (b.Wa _ _ rfl) ((h0.Xj.and (i.Xj.and (o.Xj.and b.Xj))).mono fun E K ⟨v,e1,e2,g⟩=> ?_),?_⟩
   ·obtain⟨l,rfl,-⟩:=f;simp(decide:=true)only[Xm,Xq,reduceIte,Nat.reduceAdd,x75,g,X5,v,e1,e2,u,SQ,j]
   ·have :x+y=(if decide (x<0)=true then -((x.natAbs-y.natAbs:Nat):Int)else((x.natAbs-y.natAbs:Nat):Int)):=by
     rcases r with⟨h,k⟩|⟨h,k⟩
     ·simp only[h,decide_true,if_true];omega
     ·simp only[h,decide_false,Zz,if_false];omega
    rw[this];exact f
  ·have j:x.natAbs<y.natAbs:=by omega
   have i:=bh b t s (Xo _) (Xo _) (XM (by omega)) (by omega) (by rw[Xl,Xl];omega);rw[Xl,Xl]at i;have a:(Xd (y.natAbs-x.natAbs)).length<1000000000000:=by
    have:=XM (Nat.sub_le y.natAbs x.natAbs);omega
   obtain⟨e,o,f⟩:=VM b (decide (y<0)) (l:=.Xp (Ub (Xd (y.natAbs-x.natAbs)))) .Xp (Xo _) a;rw[Xl]at f;refine⟨e,Xx.of (b.Wa _ _ rfl) ((h0.Xj.and (i.Xj.and (o.Xj.and b.Xj))).mono fun E K ⟨v,e1,e2,g⟩=> ?_),?_⟩
   ·obtain⟨l,rfl,-⟩:=f;simp(decide:=true)only[Xm,Xq,reduceIte,Nat.reduceAdd,x75,g,X5,v,e1,e2,u,SQ,j]
   ·have :x+y=(if decide (y<0)=true then -((y.natAbs-x.natAbs:Nat):Int)else((y.natAbs-x.natAbs:Nat):Int)):=by
     rcases r with⟨h,k⟩|⟨h,k⟩
     ·simp only[k,decide_false,Zz,if_false];omega
     ·simp only[k,decide_true,if_true];omega
    rw[this];exact f
theorem cK {B:Xs}(b:Std B){l:PL}{a:List Nat}(s:Ui l a)(d:Wz a)(h:a.length<=2):Xx B 184 [.one l] (.one (.int .u64 (.ofNat (val a)))):=by
 have h0:=Rn b s d 0;have g:=Rn b s d 1;have k:=TS d 0;have m:=TS d 1;have j:val a=a[1]?.getD 0*4294967296+a[0]?.getD 0:=by
  match a,h with
  |[],_=>rfl
  |[w],_=>simp[val]
  |[w,v],_=>simp[val];omega
 refine Xx.of (b.Wa _ _ rfl) ((h0.Xj.and (g.Xj.and b.Xj)).mono fun E K ⟨c,e1,i⟩=> ?_);rw[j];generalize a[1]?.getD 0=x at *;generalize a[0]?.getD 0=y at *;have e:x*4294967296%18446744073709551616=x*4294967296:=Zg (by omega);have f:(x*4294967296+y)%18446744073709551616=x*4294967296+y:=Zg (by omega);simp only[Xm,Xq,reduceIte,Nat.reduceEqDiff,Nat.reduceLeDiff,x184,i,X5,c,e1,e,f]
theorem kQ {E:Xa}{K:Nat}:∀(b a k:Nat) (H:List Xz),b<k->a<18446744073709551616->b<18446744073709551616->
  ∃c,Xb E K 0 [0,1] x183_1 k ⟨[(0,.one (.p (.int .u64 (.ofNat a)))),(1,.one (.p (.int .u64 (.ofNat b))))],H⟩=some (.exit 0,⟨c,H⟩)/\Xh c 0=some (.one (.p (.int .u64 (.ofNat (Nat.gcd a b))))):=by
 intro b;induction b using Nat.strongRecOn with
 |ind b h=>
  intro a k H m j l;obtain⟨k,rfl⟩:∃i,k=i+1:=⟨k-1,by omega⟩;cases b with
  |zero=>
   apply VE
   ·rw[Xb];simp only[Xm,Xq,reduceIte,Nat.reduceEqDiff,x183_1,Zx];rfl
   ·simp only[Xm,reduceIte,Nat.reduceEqDiff,Nat.gcd_zero_right]
  |succ b=>
   have d:a%(b+1)<b+1:=ZY _ (by omega);obtain⟨c,f,g⟩:=h (a%(b+1)) d (b+1) k H (by omega) (by omega) (by omega);have e:Nat.gcd a (b+1)=Nat.gcd (b+1) (a%(b+1)):=by
    rw[Nat.gcd_comm,Nat.gcd_rec];exact Nat.gcd_comm _ _
   refine⟨c,?_,by rw[g,e]⟩;rw[Xb];simp only[Xm,Xq,reduceIte,Nat.reduceEqDiff,x183_1,YP];exact f
theorem np {B:Xs}(e:Std B){a b:Nat}(f:a<18446744073709551616)(g:b<18446744073709551616):Xx B 183 [.one (.int .u64 (.ofNat a)),.one (.int .u64 (.ofNat b))] (.one (.int .u64 (.ofNat (Nat.gcd a b)))):=by
 refine Xx.of (e.Wa _ _ rfl) ((X1.ge (b+1)).mono fun E K i=> ?_);obtain⟨h,c,d⟩:=kQ (E:=E) (K:=K) b a K [] (by omega) f g;simp only[Xm,Xq,reduceIte,Nat.reduceEqDiff,Nat.reduceLeDiff,x183,c,d]
theorem drop_set {a:List Nat}{n w:Nat}(h:n<a.length):(a.set n w).drop n=w::a.drop (n+1):=by
 rw[ZV (by simpa using h),List.getElem_set_self,List.drop_set_of_lt (by omega)]
theorem cJ {E:Xa}{K:Nat}{v:PL}{a:List Nat}(B:Ui v a)(z:Wz a)(H:a.length<1000000000000)(t:Nat){d:Nat}(A:0<d)(l:d<4294967296):
  ∀(n k:Nat) (q:List Nat) (r:Nat),n<k->n<=a.length->q.length=a.length->Wz q->r<d->val (a.drop n)=d*val (q.drop n)+r->
  ∃b c g,Xb E K 0 [0,1,6,7,8] x194_1 k ⟨[(0,.one (.p v)),(1,.one (.p (.int .u64 (.ofNat d)))),(6,.one (.own 0 0 0 a.length)),(7,.one (.p (.int .u64 (.ofNat r)))),(8,.one (.p (.int .i64 (pI n))))],[⟨false,0,1,Wi q,false,t⟩]⟩=some (.exit 0,⟨b,[⟨false,0,1,Wi c,false,t⟩]⟩)/\
   (Xh b 6=some (.one (.own 0 0 0 a.length))/\Xh b 7=some (.one (.p (.int .u64 (.ofNat g)))))/\c.length=a.length/\Wz c/\g<d/\val a=d*val c+g
 |_,0,_,_,h,_,_,_,_,_=>by omega
 |0,k+1,q,r,_,_,h1,h2,h3,h4=>by
  have :∃b,Xb E K 0 [0,1,6,7,8] x194_1 (k+1) ⟨[(0,.one (.p v)),(1,.one (.p (.int .u64 (.ofNat d)))),(6,.one (.own 0 0 0 a.length)),(7,.one (.p (.int .u64 (.ofNat r)))),(8,.one (.p (.int .i64 (pI 0))))],[⟨false,0,1,Wi q,false,t⟩]⟩=some (.exit 0,⟨b,[⟨false,0,1,Wi q,false,t⟩]⟩)/\
    (Xh b 6=some (.one (.own 0 0 0 a.length))/\Xh b 7=some (.one (.p (.int .u64 (.ofNat r))))):=by
   apply VE
   ·rw[Xb];simp only[Xm,Xq,reduceIte,Nat.reduceEqDiff,x194_1,pI];rfl
   ·simp only[Xm,reduceIte,Nat.reduceEqDiff,and_self]
  obtain⟨b,i,j⟩:=this;exact⟨b,q,r,i,j,h1,h2,h3,by simpa using h4⟩
 |n+1,k+1,q,r,hk,hn,h1,h2,h3,h4=>by
  obtain⟨w,o⟩:∃w,a[n]? =some w:=⟨_,Zf (by omega)⟩;obtain⟨u,L⟩:∃u,q[n]? =some u:=⟨_,Zf (by omega)⟩;have M:=z.get o;obtain⟨s,J⟩:∃s,s=r*4294967296+w:=⟨_,rfl⟩;have f:s / d<4294967296:=Yp (by
   have:=Zp 4294967296 (show r+1<=d from h3);rw[ZG]at this;omega)
  have C:w%18446744073709551616=w:=Zg (by omega);have D:r*4294967296%18446744073709551616=r*4294967296:=Zg (by omega);have F:(r*4294967296+w)%18446744073709551616=s:=by rw[<-J];exact Zg (by omega)
  have G:Xe .u32 (Xe .u64 (.ofNat (s / d)))=.ofNat (s / d):=by
   rw[wrap_u64,Zg (show s / d<18446744073709551616 by omega),wrap_u32,Zg f]
  have N:U8 .u64 (.ofNat s) (.ofNat d)=some (.p (.int .u64 (.ofNat (s%d)))):=by
   obtain⟨e,rfl⟩:∃e,d=e+1:=⟨d-1,by omega⟩;rfl
  have O:Tz .u64 (.ofNat s) (.ofNat d)=some (.p (.int .u64 (Xe .u64 (.ofNat (s / d))))):=by
   obtain⟨e,rfl⟩:∃e,d=e+1:=⟨d-1,by omega⟩;rfl
  have I:=Uk (n:=n) (by omega);have m:n<a.length:=by omega
  obtain⟨b,c,g,i,j⟩:=cJ B z H t A l n k (q.set n (s / d)) (s%d) (by omega) (by omega) (by simpa using h1) (h2.set n f) (ZY _ A) (by
   rw[drop_set (by omega),Pz o,h4];simp only[val];have:=YC s d;generalize s / d=x at *;generalize s%d=y at *
   grind)
  refine⟨b,c,g,?_,j⟩;rw[Xb];simp only[Xm,Xq,reduceIte,Nat.reduceEqDiff,Nat.reduceLeDiff,x194_1,pI,Zt,B.idx o,C,D,F,N,O,m,X2 L,I];simp only[<-wrap_u64,<-wrap_u32,G,WH];exact i
theorem fa {B:Xs}(c:Std B){la:PL}{a:List Nat}(o:Ui la a)(j:Wz a)(w:a.length<1000000000000){d:Nat}(e:0<d)(f:d<4294967296):
  Xx B 194 [.one la,.one (.int .u64 (.ofNat d))] (.XZ [.one (.Xp (Ub (Xd (val a / d)))),.one (.int .u64 (.ofNat (val a%d)))]):=by
 have i:=WW j;have y:val a / d<4294967296^a.length:=Z6 (Nat.div_le_self _ _) i;have m:=Se c (ws:=dg a.length (val a / d)) (by rw[X9];omega);rw[TJ y]at m;refine Xx.of (c.Wa _ _ rfl) (((X1.ge (a.length+1)).and (m.Xj.and c.Xj)).mono fun E K ⟨D,e1,x⟩=> ?_);obtain⟨C,z,A,s,⟨t,b⟩,u,v,k,l⟩:=cJ (E:=E) (K:=K) o j w 177 e f a.length K (List.replicate a.length 0) 0 (by omega) (Zh _) (by simp) (Wz.replicate _) e (by simp[val]);have g:val z=val a / d:=by
  rw[l,Nat.mul_add_div e,YY k];omega
 have h:A=val a%d:=by
  rw[l,Nat.mul_add_mod,Zg k]
 obtain rfl:=Tx v u g;subst h;have p:=Uk (n:=a.length) (by omega);have q:4*a.length<=lim:=by unfold lim;omega
 have r:a.length<=9223372036854775807:=by omega
 simp only[Xm,Xq,reduceIte,Nat.reduceEqDiff,Nat.reduceLeDiff,x194,o.len,p,q,r,Zh,U0,s,t,b,U5 _ (Y0 (X9 a.length (val a / d))),Vd,X9,VX,Uf,x,X5,e1]
def D5 (x:Int):Prop:=x.natAbs<4294967296
theorem qO {B:Xs}(a:Std B){x:Int}(b:D5 x):∃c,Xx B 18 [.one (.int .i64 x)] (.agg c)/\GA c x:=by
 unfold D5 at b;obtain⟨c,i,e⟩:∃c,Xx B 49 [.one (.int .i64 x)] (.agg c)/\Ta c x:=by
  cases x with
  |ofNat m=>exact sW a (by simp at b;omega)
  |negSucc m=>exact A5 a (by simp at b;omega)
 obtain⟨d,j,f⟩:=sW a (m:=1) (by decide);obtain⟨l,n,g⟩:=e.len;obtain⟨o,p,h⟩:=f.len;subst g h;refine⟨_,Xx.of (a.Wa _ _ rfl) ((i.Xj.and (j.Xj.and a.Xj)).mono fun E K ⟨e1,e2,k⟩=> ?_),⟨_,_,_,_,rfl,e,f⟩⟩;simp(decide:=true)only[Xm,Xq,reduceIte,Nat.reduceAdd,x18,k,X5,e1,e2]
end Go.Proofs.YtidginchkjhobaaGreat
