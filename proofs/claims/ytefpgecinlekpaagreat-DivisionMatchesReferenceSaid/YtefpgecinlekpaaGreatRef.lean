/- The reference's integers: words. -/
import Derived.Test.YtefpgecinlekpaaGreatInt
namespace Go.Proofs.YtefpgecinlekpaaGreat
open Go.Ev Go.Num
theorem Nl {E:Xb}{K:Nat}{l:PL}{a:List Nat}(s:V9 l a)(g:a.length<9223372036854775808):∀(n k:Nat) (H:List Xz),n<k->n<=a.length->
  ∃b,Xc E K 0 [0,3] x149_1 k ⟨[(0,.one (.p l)),(3,.one (.p (.int .i64 (.ofNat n))))],H⟩=some (.exit 0,⟨b,H⟩)/\Xh b 0=some (.one (.p l))/\Xh b 3=some (.one (.p (.int .i64 (.ofNat (W9 (a.take n)).length))))
 |_,0,_,h,_=>by omega
 |0,k+1,H,_,_=>by
  apply VM
  ·rw[Xc];simp only[Xp,Xq,reduceIte,Nat.reduceEqDiff,x149_1,Zv];rfl
  ·simp only[Xp,reduceIte,Nat.reduceEqDiff,W9,and_self]
 |n+1,k+1,H,hk,hn=>by
  obtain⟨w,c⟩:∃w,a[n]? =some w:=⟨_,Zg (by omega)⟩;have d:Xe .i64 (Int.ofNat (n+1)-Int.ofNat 1)=Int.ofNat n:=Wh (by omega) (by omega);rw[iR c,bg];by_cases h0:w=0
  ·subst h0;obtain⟨b,e,f⟩:=Nl s g n k H (by omega) (by omega);refine⟨b,?_,f⟩;rw[Xc];simp only[Xp,Xq,reduceIte,Nat.reduceEqDiff,x149_1,YF,d,s.idx c];exact e
  ·apply VM
   ·rw[Xc];simp only[Xp,Xq,reduceIte,Nat.reduceEqDiff,x149_1,YF,d,s.idx c,h0];rfl
   ·simp only[Xp,reduceIte,Nat.reduceEqDiff,h0,Zl,ZQ,Yn (show n<=a.length by omega),and_self]
theorem Sj {B:Xr}(g:Std B){ws:List Nat}(i:ws.length<9223372036854775808):Xs B 149 [.one (.Xv (Ug ws))] (.one (.Xv (Ug (W9 ws)))):=by
 have s:V9 (.Xv (Ug ws)) ws:=.Xv;refine Xs.of (g.X6 _ _ rfl) ((X0.ge (ws.length+1)).mono fun E K k=> ?_);obtain⟨j,d,e,b⟩:=Nl (E:=E) (K:=K) s i ws.length K [] (by omega) (Zh _);rw[Ym]at b;have a:∀h,WH 1 h (.p (.Xv (Ug ws))) 0 (some (W9 ws).length)=some (.p (.Xv (Ug (W9 ws))),[]):=by
  intro h;obtain⟨r,a,c⟩:=s.upto (n:=(W9 ws).length) (NT ws);have:=a h;rw[<-dM]at c;rcases c with rfl|⟨-,rfl⟩
  ·exact this
  ·simp only[WH]at this;obtain⟨-,f⟩:=Xw this;simp at f
 simp only[Xp,Xq,reduceIte,Nat.reduceEqDiff,Nat.reduceLeDiff,x149,s.len,d,e,b,a]
theorem uP {B:Xr}(g:Std B){l:PL}{a:List Nat}(s:V9 l a)(h:a.length<9223372036854775808):∃r,Xs B 149 [.one l] (.one r)/\V9 r (W9 a):=by
 obtain⟨r,f,c⟩:=s.upto (n:=(W9 a).length) (NT a);rw[<-dM]at c;refine⟨r,Xs.of (g.X6 _ _ rfl) ((X0.ge (a.length+1)).mono fun E K j=> ?_),c⟩;obtain⟨i,d,e,b⟩:=Nl (E:=E) (K:=K) s h a.length K [] (by omega) (Zh _);rw[Ym]at b;simp only[Xp,Xq,reduceIte,Nat.reduceEqDiff,Nat.reduceLeDiff,x149,s.len,d,e,b,f]
theorem Ni {E:Xb}{K:Nat}{s t:PL}{a b:List Nat}(i:V9 s a)(j:V9 t b)(q:WB a)(r:WB b)(l:a.length=b.length)(A:a.length<1000000000000):∀(n k:Nat) (H:List Xz),n<k->n<=a.length->
  ∃c d,Xc E K 0 [0,1,5] x142_1 k ⟨[(0,.one (.p s)),(1,.one (.p t)),(5,.one (.p (.int .i64 (pI n))))],H⟩=some (c,⟨d,H⟩)/\
   ((val (a.take n)=val (b.take n)/\c=.exit 0)\/(val (a.take n)<val (b.take n)/\c=.ret/\Xh d 4=some (.one (.p (.int .i64 (.negSucc 0)))))\/(val (b.take n)<val (a.take n)/\c=.ret/\Xh d 4=some (.one (.p (.int .i64 (.ofNat 1))))))
 |_,0,_,h,_=>by omega
 |0,k+1,H,_,_=>by
  refine⟨.exit 0,?_⟩;apply VM
  ·rw[Xc];simp only[Xp,Xq,reduceIte,Nat.reduceEqDiff,x142_1,pI];rfl
  ·exact .inl ⟨rfl,rfl⟩
 |n+1,k+1,H,hk,hn=>by
  obtain⟨w,g⟩:∃w,a[n]? =some w:=⟨_,Zg (by omega)⟩;obtain⟨v,f⟩:∃v,b[n]? =some v:=⟨_,Zg (by omega)⟩;have z:=Uo (n:=n) (by omega);have B:val (a.take n)<4294967296^n:=by
   have:=WN (ws:=a.take n) (fun x m=>q x (YK m))
   rwa[ZQ,Yn (by omega)]at this
  have C:val (b.take n)<4294967296^n:=by
   have:=WN (ws:=b.take n) (fun x m=>r x (YK m))
   rwa[ZQ,Yn (by omega)]at this
  rw[Vk g,Vk f];by_cases e:w=v
  ·subst e;obtain⟨c,d,u,y⟩:=Ni i j q r l A n k H (by omega) (by omega);refine⟨c,d,?_,y.imp (fun h=>⟨by omega,h.2⟩) fun h=>h.imp (fun h=>⟨by omega,h.2⟩) fun h=>⟨by omega,h.2⟩⟩;rw[Xc];simp only[Xp,Xq,reduceIte,Nat.reduceEqDiff,x142_1,pI,Zs,i.idx g,j.idx f,z,Zv];exact u
  ·by_cases o:w<v
   ·have:=Zo (4294967296^n) (show w+1<=v from o);rw[ZE,Z0]at this;refine⟨.ret,?_⟩;apply VM
    ·rw[Xc];simp only[Xp,Xq,reduceIte,Nat.reduceEqDiff,x142_1,pI,Zs,i.idx g,j.idx f,o];rfl
    ·exact .inr (.inl ⟨by omega,rfl,by simp only[Xp,reduceIte,Nat.reduceEqDiff]⟩)
   ·have:=Zo (4294967296^n) (show v+1<=w by omega);rw[ZE,Z0]at this;refine⟨.ret,?_⟩;apply VM
    ·rw[Xc];simp only[Xp,Xq,reduceIte,Nat.reduceEqDiff,x142_1,pI,Zs,i.idx g,j.idx f,o,show v<w by omega];rfl
    ·exact .inr (.inr ⟨by omega,rfl,by simp only[Xp,reduceIte,Nat.reduceEqDiff]⟩)
theorem aN {B:Xr}(s:Std B){o p:PL}{a b:List Nat}(f:V9 o a)(g:V9 p b)(j:WB a)(m:WB b)(r:Canon a)(l:Canon b)(t:a.length<1000000000000)(x:b.length<1000000000000):
  Xs B 142 [.one o,.one p] (.one (.int .i64 (dH (val a) (val b)))):=by
 refine Xs.of (s.X6 _ _ rfl) ((X0.ge (a.length+1)).mono fun E K w=> ?_);by_cases c:a.length=b.length
 ·obtain⟨v,u,k,d⟩:=Ni (E:=E) (K:=K) f g j m c t a.length K [] (by omega) (Zh _);rw[Ym,c,Ym]at d;rw[c]at k;have i:=Uo (n:=b.length) (by omega);unfold dH;rcases d with⟨e,rfl⟩|⟨e,rfl,d⟩|⟨e,rfl,d⟩
  ·simp only[Xp,Xq,reduceIte,Nat.reduceEqDiff,Nat.reduceLeDiff,x142,f.len,g.len,c,Zv,i,k,e,Zv]
  ·simp only[Xp,Xq,reduceIte,Nat.reduceEqDiff,Nat.reduceLeDiff,x142,f.len,g.len,c,Zv,i,k,e,d]
  ·simp only[Xp,Xq,reduceIte,Nat.reduceEqDiff,Nat.reduceLeDiff,x142,f.len,g.len,c,Zv,i,k,e,d,Nat.lt_asymm e]
 ·have q:∀{a b:List Nat},WB a->Canon b->a.length<b.length->val a<val b:=by
   intro a b j l h;have i:=ZW (WN j) (Vj (Nat.le_of_lt_succ (by omega:a.length<b.length-1+1)));exact ZW i (QV l (by omega))
  unfold dH;by_cases h:a.length<b.length
  ·have e:=q j l h;simp only[Xp,Xq,reduceIte,Nat.reduceEqDiff,Nat.reduceLeDiff,x142,f.len,g.len,h,e]
  ·have e:=q m r (by omega);simp only[Xp,Xq,reduceIte,Nat.reduceEqDiff,Nat.reduceLeDiff,x142,f.len,g.len,h,show b.length<a.length by omega,e,Nat.lt_asymm e]
theorem Rs {B:Xr}(e:Std B){l:PL}{a:List Nat}(s:V9 l a)(d:WB a)(i:Nat):Xs B 174 [.one l,.one (.int .i64 (.ofNat i))] (.one (.int .u64 (.ofNat (a[i]?.getD 0)))):=by
 refine Xs.of (e.X6 _ _ rfl) (X0.of fun K n=> ?_);by_cases h:i<a.length
 ·obtain⟨w,b⟩:∃w,a[i]? =some w:=⟨_,Zg h⟩;have c:w%18446744073709551616=w:=Zf (by have:=d.get b;omega);simp only[Xp,Xq,reduceIte,Nat.reduceEqDiff,Nat.reduceLeDiff,x174,s.len,h,s.idx b,c,b,Option.getD_some]
 ·have b:a[i]? =none:=Yv (by omega);simp only[Xp,Xq,reduceIte,Nat.reduceEqDiff,Nat.reduceLeDiff,x174,s.len,h,b,Option.getD_none]
theorem TS {a:List Nat}(d:WB a)(i:Nat):a[i]?.getD 0<4294967296:=by
 cases h:a[i]? with
 |none=>simp
 |some w=>exact d.get h
theorem gP {E:Xb}{K:Nat}{z A:PL}{a b:List Nat}(B:WB a)(C:WB b){n:Nat}(S:n<1000000000000)(L:E.mode=md)
  (D:∀i,i<n->E.pure 174 [.one z,.one (.int .i64 (.ofNat i))]=some (.one (.int .u64 (.ofNat (a[i]?.getD 0)))))
  (F:∀i,i<n->E.pure 174 [.one A,.one (.int .i64 (.ofNat i))]=some (.one (.int .u64 (.ofNat (b[i]?.getD 0))))) (t:Nat):
  ∀(d i k:Nat) (r:List Nat) (c:Nat),i+d=n->d<k->r.length=n->WB r->c<2->(∀j,i<=j->j<n->r[j]? =some 0)->val r+c*4294967296^i=val (a.take i)+val (b.take i)->
  ∃e l f,Xc E K 0 [0,1,5,6,7,8] x146_1 k ⟨[(0,.one (.p z)),(1,.one (.p A)),(5,.one (.p (.int .i64 (.ofNat n)))),(6,.one (.own 0 0 0 n)),(7,.one (.p (.int .u64 (.ofNat c)))),(8,.one (.p (.int .i64 (.ofNat i))))],[⟨false,0,1,Wm r,false,t⟩]⟩=some (.exit 0,⟨e,[⟨false,0,1,Wm l,false,t⟩]⟩)/\
   Xh e 6=some (.one (.own 0 0 0 n))/\l.length=n/\WB l/\val l+f*4294967296^n=val (a.take n)+val (b.take n)
 |_,_,0,_,_,_,h,_,_,_,_,_=>by omega
 |0,i,k+1,r,c,hi,_,h1,h2,h3,h4,h5=>by
  obtain rfl:i=n:=by omega
  have :∃e,Xc E K 0 [0,1,5,6,7,8] x146_1 (k+1) ⟨[(0,.one (.p z)),(1,.one (.p A)),(5,.one (.p (.int .i64 (.ofNat i)))),(6,.one (.own 0 0 0 i)),(7,.one (.p (.int .u64 (.ofNat c)))),(8,.one (.p (.int .i64 (.ofNat i))))],[⟨false,0,1,Wm r,false,t⟩]⟩=some (.exit 0,⟨e,[⟨false,0,1,Wm r,false,t⟩]⟩)/\Xh e 6=some (.one (.own 0 0 0 i)):=by
   apply VM
   ·rw[Xc];simp only[Xp,Xq,reduceIte,Nat.reduceEqDiff,x146_1,Zv];rfl
   ·simp only[Xp,reduceIte,Nat.reduceEqDiff]
  obtain⟨e,q,s⟩:=this;exact⟨e,r,c,q,s,h1,h2,h5⟩
 |d+1,i,k+1,r,c,hi,hk,h1,h2,h3,h4,h5=>by
  have g:i<n:=by omega
  have U:=TS B i;have T:=TS C i;have m:=D i g;have o:=F i g;have e3:=bd a i;have P:=bd b i;generalize a[i]?.getD 0=w at *;generalize b[i]?.getD 0=v at *;have M:=h4 i (Zh _) (by omega);have G:(w+v)%18446744073709551616=w+v:=Zf (by omega);have H:(w+v+c)%18446744073709551616=w+v+c:=Zf (by omega);have Q:Xe .i64 (.ofNat (i+1))=.ofNat (i+1):=wrap_i64 (by omega);have I:(w+v+c)%4294967296%4294967296=(w+v+c)%4294967296:=Nat.mod_mod _ _;have J:(w+v+c) / 4294967296%18446744073709551616=(w+v+c) / 4294967296:=Zf (by omega);have N:U9 .u64 (.ofNat (w+v+c)) (.ofNat 4294967296)=some (.p (.int .u64 (.ofNat ((w+v+c)%4294967296)))):=rfl;have O:Tx .u64 (.ofNat (w+v+c)) (.ofNat 4294967296)=some (.p (.int .u64 (Xe .u64 (.ofNat ((w+v+c) / 4294967296))))):=rfl;obtain⟨e,l,f,q,s⟩:=gP B C S L D F t d (i+1) k (r.set i ((w+v+c)%4294967296)) ((w+v+c) / 4294967296) (by omega) (by omega) (by simpa using h1) (h2.set i (by omega)) (by omega)
   (fun j R u=>by rw[ZB (by omega)];exact h4 j (by omega) u) (by
    have e1:=Tl (w:=(w+v+c)%4294967296) M;rw[e3,P];have e2:(w+v+c)%4294967296+4294967296*((w+v+c) / 4294967296)=w+v+c:=Nat.mod_add_div _ _;rw[ZJ];clear I J N O G H;generalize (w+v+c)%4294967296=x at *;generalize (w+v+c) / 4294967296=y at *;generalize 4294967296^i=p at *
    grind)
  refine⟨e,l,f,?_,s⟩;rw[Xc];simp only[Xp,Xq,reduceIte,Nat.reduceEqDiff,Nat.reduceLeDiff,x146_1,g,L,XW,m,o,G,H,Q,I,J,N,O,X5 M,WG];exact q
theorem j8 {B:Xr}(d:Std B){m lb:PL}{a b:List Nat}(o:V9 m a)(q:V9 lb b)(e:WB a)(f:WB b)(N:a.length<100000000000)(O:b.length<100000000000):
  Xs B 146 [.one m,.one lb] (.one (.Xv (Ug (Xd (val a+val b))))):=by
 obtain⟨n,Q⟩:∃n,n=max a.length b.length+1:=⟨_,rfl⟩;have H:val a+val b<4294967296^n:=by
  have g:=ZW (WN e) (Vj (show a.length<=n-1 by omega));have L:=ZW (WN f) (Vj (show b.length<=n-1 by omega));have :4294967296^n=4294967296^(n-1)*4294967296:=by rw[<-ZJ];congr 1;omega
  omega
 have g:=Sj d (ws:=dg n (val a+val b)) (by rw[Wd];omega);rw[TI H]at g;refine Xs.of (d.X6 _ _ rfl) (((X0.ge (n+1)).and (g.Xi.and (d.Xi.and ((X0.all n fun i _=>(Rs d o e i).Xi).and (X0.all n fun i _=>(Rs d q f i).Xi))))).mono fun E K ⟨M,e1,l,r,s⟩=> ?_);obtain⟨J,I,c,z,A,C,D,F⟩:=gP (E:=E) (K:=K) e f (show n<1000000000000 by omega) l r s 161 n 0 K (List.replicate n 0) 0 (by omega) (by omega) (by simp) (WB.replicate _) (by decide)
  (fun j _ P=>by rw[Yp,if_pos (by omega)]) (by rw[VV];simp[val])
 rw[Zb (show a.length<=n by omega),Zb (show b.length<=n by omega)]at F;have k:I=dg n (val a+val b):=by
  have G:c=0:=by
   rcases Z8 c with h|h
   ·exact h
   ·have:=Zo (4294967296^n) h;omega
  subst G;exact Tu D C (by omega)
 subst k;have t:maxD T5 .i64 (.ofNat a.length) [.one (.p (.int .i64 (.ofNat b.length)))]=some (.one (.p (.int .i64 (.ofNat (n-1))))):=by
  simp only[maxD,dF,ze,YG,cond_true,Nx];by_cases h:a.length<b.length
  ·simp only[h,decide_true,cond_true];congr 5;omega
  ·simp only[h,decide_false,cond_false];congr 5;omega
 have u:Xe .i64 (.ofNat (n-1+1))=.ofNat n:=by rw[show n-1+1=n by omega];exact wrap_i64 (by omega)
 have w:4*n<=lim:=by unfold lim;omega
 have x:n<=9223372036854775807:=by omega
 have y:∀v,RD T5 (.one (.p (.int .i64 (.ofNat a.length)))::v)=(match maxD T5 .i64 (.ofNat a.length) v with |some v=>some ⟨v,[],[],[]⟩|none=>none):=fun _=>rfl
 simp only[Xp,Xq,reduceIte,Nat.reduceEqDiff,Nat.reduceLeDiff,x146,o.len,q.len,y,t,u,w,x,Zh,UW,z,A,U2 _ (YN (Wd n (val a+val b))),Vb,Wd,V4,Ul,l,XW,e1]
theorem Qu {a b:Nat}(h:b<=a)(c:a<18446744073709551616):Xe .u64 (.ofNat a-.ofNat b)=.ofNat (a-b):=by
 rw[TK h,wrap_u64,Zf (by omega)]
theorem eD {E:Xb}{K:Nat}{B C:PL}{a b:List Nat}(m:V9 B a)(D:WB a)(F:WB b)(W:a.length<1000000000000)(L:E.mode=md)
  (G:∀i,i<a.length->E.pure 174 [.one C,.one (.int .i64 (.ofNat i))]=some (.one (.int .u64 (.ofNat (b[i]?.getD 0))))) (t:Nat):
  ∀(d i k:Nat) (r:List Nat) (c:Nat),i+d=a.length->d<k->r.length=a.length->WB r->c<2->(∀j,i<=j->j<a.length->r[j]? =some 0)->val r+val (b.take i)=val (a.take i)+c*4294967296^i->
  ∃e g f,Xc E K 0 [0,1,5,6,7] x147_1 k ⟨[(0,.one (.p B)),(1,.one (.p C)),(5,.one (.own 0 0 0 a.length)),(6,.one (.p (.int .u64 (.ofNat c)))),(7,.one (.p (.int .i64 (.ofNat i))))],[⟨false,0,1,Wm r,false,t⟩]⟩=some (.exit 0,⟨e,[⟨false,0,1,Wm g,false,t⟩]⟩)/\
   Xh e 5=some (.one (.own 0 0 0 a.length))/\g.length=a.length/\WB g/\val g+val (b.take a.length)=val a+f*4294967296^a.length
 |_,_,0,_,_,_,h,_,_,_,_,_=>by omega
 |0,i,k+1,r,c,hi,_,h1,h2,h3,h4,h5=>by
  obtain rfl:i=a.length:=by omega
  rw[Ym]at h5;have :∃e,Xc E K 0 [0,1,5,6,7] x147_1 (k+1) ⟨[(0,.one (.p B)),(1,.one (.p C)),(5,.one (.own 0 0 0 a.length)),(6,.one (.p (.int .u64 (.ofNat c)))),(7,.one (.p (.int .i64 (.ofNat a.length))))],[⟨false,0,1,Wm r,false,t⟩]⟩=some (.exit 0,⟨e,[⟨false,0,1,Wm r,false,t⟩]⟩)/\
    Xh e 5=some (.one (.own 0 0 0 a.length)):=by
   apply VM
   ·rw[Xc];simp only[Xp,Xq,reduceIte,Nat.reduceEqDiff,x147_1,m.len,Zv];rfl
   ·simp only[Xp,reduceIte,Nat.reduceEqDiff]
  obtain⟨e,q,u⟩:=this;exact⟨e,r,c,q,u,h1,h2,h5⟩
 |d+1,i,k+1,r,c,hi,hk,h1,h2,h3,h4,h5=>by
  obtain⟨w,A⟩:∃w,a[i]? =some w:=⟨_,Zg (by omega)⟩;have l:i<a.length:=by omega
  have Y:=D.get A;have M:=h4 i (Zh _) (by omega);have X:=TS F i;have n:=G i l;have Q:=bd b i;generalize b[i]?.getD 0=v at *;have R:w%18446744073709551616=w:=Zf (by omega);have S:(4294967296+w)%18446744073709551616=4294967296+w:=Zf (by omega);have T:Xe .i64 (.ofNat (i+1))=.ofNat (i+1):=wrap_i64 (by omega);have U:=Qu (a:=4294967296+w) (b:=v) (by omega) (by omega);have o:=Qu (a:=4294967296+w-v) (b:=c) (by omega) (by omega);obtain⟨s,N⟩:∃s,s=4294967296+w-v-c:=⟨_,rfl⟩;rw[<-N]at o;have H:s%4294967296%4294967296=s%4294967296:=Nat.mod_mod _ _;have I:s / 4294967296%18446744073709551616=s / 4294967296:=Zf (by omega);have J:=Qu (a:=1) (b:=s / 4294967296) (by omega) (by omega);have O:U9 .u64 (.ofNat s) (.ofNat 4294967296)=some (.p (.int .u64 (.ofNat (s%4294967296)))):=rfl;have P:Tx .u64 (.ofNat s) (.ofNat 4294967296)=some (.p (.int .u64 (Xe .u64 (.ofNat (s / 4294967296))))):=rfl;have Z:s%4294967296+c+v=w+4294967296*(1-s / 4294967296):=by omega
  obtain⟨e,g,f,q,u⟩:=eD m D F W L G t d (i+1) k (r.set i (s%4294967296)) (1-s / 4294967296) (by omega) (by omega) (by simpa using h1) (h2.set i (by omega)) (by omega)
   (fun j V z=>by rw[ZB (by omega)];exact h4 j (by omega) z) (by
    have e1:=Tl (w:=s%4294967296) M;rw[Vk A,Q,ZJ];clear O P H I J o N;generalize s%4294967296=x at *;generalize 1-s / 4294967296=y at *;generalize 4294967296^i=p at *
    grind)
  refine⟨e,g,f,?_,u⟩;rw[Xc];simp only[Xp,Xq,reduceIte,Nat.reduceEqDiff,Nat.reduceLeDiff,x147_1,m.len,l,m.idx A,L,XW,n,R,S,T,U,o,H,I,J,O,P,X5 M,WG];exact q
theorem bl {B:Xr}(d:Std B){q r:PL}{a b:List Nat}(s:V9 q a)(C:V9 r b)(k:WB a)(l:WB b)(e:b.length<=a.length)(H:a.length<100000000000)(I:val b<=val a):
  Xs B 147 [.one q,.one r] (.one (.Xv (Ug (Xd (val a-val b))))):=by
 have z:=WN k;have o:=Sj d (ws:=dg a.length (val a-val b)) (by rw[Wd];omega);rw[TI (by omega)]at o;refine Xs.of (d.X6 _ _ rfl) (((X0.ge (a.length+1)).and (o.Xi.and (d.Xi.and (X0.all a.length fun i _=>(Rs d C l i).Xi)))).mono fun E K ⟨F,e1,p,t⟩=> ?_);obtain⟨D,A,c,w,x,m,n,y⟩:=eD (E:=E) (K:=K) s k l (by omega) p t 161 a.length 0 K (List.replicate a.length 0) 0 (by omega) (by omega) (by simp) (WB.replicate _) (by decide)
  (fun j _ G=>by rw[Yp,if_pos (by omega)]) (by rw[VV];simp[val])
 rw[Zb e]at y;have g:A=dg a.length (val a-val b):=by
  have:=WN n;rw[m]at this;have f:c=0:=by
   rcases Z8 c with h|h
   ·exact h
   ·have:=Zo (4294967296^a.length) h;omega
  subst f;exact Tu n m (by omega)
 subst g;have u:4*a.length<=lim:=by unfold lim;omega
 have v:a.length<=9223372036854775807:=by omega
 simp only[Xp,Xq,reduceIte,Nat.reduceEqDiff,Nat.reduceLeDiff,x147,s.len,u,v,Zh,UW,w,x,U2 _ (YN (Wd a.length (val a-val b))),Vb,Wd,V4,Ul,p,XW,e1]
theorem mH {E:Xb}{K:Nat}{n o:PL}{a b:List Nat}(Y:V9 n a)(B:V9 o b)(P:WB b)(hl:a.length+b.length<1000000000000)(t:Nat){i x:Nat}(F:a[i]? =some x)(X:x<4294967296)(V:Nat):
  ∀(d j k:Nat) (r:List Nat) (e:Nat),j+d=b.length->d<k->r.length=a.length+b.length->WB r->e<4294967296->(∀p,i+b.length<=p->p<a.length+b.length->r[p]? =some 0)->val r+e*4294967296^(i+j)+x*4294967296^(i+j)*val (b.drop j)=V->
  ∃c l f,Xc E K 0 [0,1,5,6,7,8] x148_1 k ⟨[(0,.one (.p n)),(1,.one (.p o)),(5,.one (.own 0 0 0 (a.length+b.length))),(6,.one (.p (.int .i64 (.ofNat i)))),(7,.one (.p (.int .u64 (.ofNat e)))),(8,.one (.p (.int .i64 (.ofNat j))))],[⟨false,0,1,Wm r,false,t⟩]⟩=some (.exit 2,⟨c,[⟨false,0,1,Wm l,false,t⟩]⟩)/\
   (Xh c 0=some (.one (.p n))/\Xh c 1=some (.one (.p o))/\Xh c 5=some (.one (.own 0 0 0 (a.length+b.length)))/\Xh c 6=some (.one (.p (.int .i64 (.ofNat i))))/\Xh c 7=some (.one (.p (.int .u64 (.ofNat f)))))/\l.length=a.length+b.length/\WB l/\f<4294967296/\(∀p,i+b.length<=p->p<a.length+b.length->l[p]? =some 0)/\val l+f*4294967296^(i+b.length)=V
 |_,_,0,_,_,_,h,_,_,_,_,_=>by omega
 |0,j,k+1,r,e,hj,_,h1,h2,h3,h4,h5=>by
  obtain rfl:j=b.length:=by omega
  have :∃c,Xc E K 0 [0,1,5,6,7,8] x148_1 (k+1) ⟨[(0,.one (.p n)),(1,.one (.p o)),(5,.one (.own 0 0 0 (a.length+b.length))),(6,.one (.p (.int .i64 (.ofNat i)))),(7,.one (.p (.int .u64 (.ofNat e)))),(8,.one (.p (.int .i64 (.ofNat b.length))))],[⟨false,0,1,Wm r,false,t⟩]⟩=some (.exit 2,⟨c,[⟨false,0,1,Wm r,false,t⟩]⟩)/\(Xh c 0=some (.one (.p n))/\Xh c 1=some (.one (.p o))/\Xh c 5=some (.one (.own 0 0 0 (a.length+b.length)))/\Xh c 6=some (.one (.p (.int .i64 (.ofNat i))))/\Xh c 7=some (.one (.p (.int .u64 (.ofNat e))))):=by
   apply VM
   ·rw[Xc];simp only[Xp,Xq,reduceIte,Nat.reduceEqDiff,x148_1,B.len,Zv];rfl
   ·simp only[Xp,reduceIte,Nat.reduceEqDiff,and_self]
  obtain⟨c,A,D⟩:=this;refine⟨c,r,e,A,D,h1,h2,h3,h4,?_⟩;rw[List.drop_length]at h5;simpa[val]using h5
 |d+1,j,k+1,r,e,hj,hk,h1,h2,h3,h4,h5=>by
  have a0:i<a.length:=(Zd.1 F).1;have m:j<b.length:=by omega
  obtain⟨v,L⟩:∃v,b[j]? =some v:=⟨_,Zg m⟩;obtain⟨u,I⟩:∃u,r[i+j]? =some u:=⟨_,Zg (by omega)⟩;have M:=P.get L;have J:=h2.get I;have U:=Tc X M J h3;have Z:x%18446744073709551616=x:=Zf (by omega);have Q:v%18446744073709551616=v:=Zf (by omega);have R:u%18446744073709551616=u:=Zf (by omega);have S:(x*v)%18446744073709551616=x*v:=Zf (by omega);have T:(x*v+u)%18446744073709551616=x*v+u:=Zf (by omega);have q:(x*v+u+e)%18446744073709551616=x*v+u+e:=Zf U;have f6:Xe .i64 (.ofNat (i+j))=.ofNat (i+j):=wrap_i64 (by omega);have f7:Xe .i64 (.ofNat (j+1))=.ofNat (j+1):=wrap_i64 (by omega);have f8:i+j<a.length+b.length:=by omega
  obtain⟨s,W⟩:∃s,s=x*v+u+e:=⟨_,rfl⟩;rw[<-W]at q;have C:s%4294967296%4294967296=s%4294967296:=Nat.mod_mod _ _;have g:s / 4294967296%18446744073709551616=s / 4294967296:=Zf (by omega);have N:U9 .u64 (.ofNat s) (.ofNat 4294967296)=some (.p (.int .u64 (.ofNat (s%4294967296)))):=rfl;have O:Tx .u64 (.ofNat s) (.ofNat 4294967296)=some (.p (.int .u64 (Xe .u64 (.ofNat (s / 4294967296))))):=rfl;obtain⟨c,l,f,A,D⟩:=mH Y B P hl t F X V d (j+1) k (r.set (i+j) (s%4294967296)) (s / 4294967296) (by omega) (by omega) (by simpa using h1) (h2.set _ (by omega)) (by omega)
   (fun p G H=>by rw[ZB (by omega)];exact h4 p G H) (by
    have e1:=Tl (w:=s%4294967296) I;rw[PS L]at h5;have e2:s%4294967296+4294967296*(s / 4294967296)=s:=Nat.mod_add_div _ _;rw[show i+(j+1)=(i+j)+1 by omega,ZJ];clear U S T q Q R N O C g;generalize s%4294967296=y at *;generalize s / 4294967296=z at *;generalize 4294967296^(i+j)=p at *
    grind)
  refine⟨c,l,f,?_,D⟩;rw[W]at q N O C g A;rw[Xc];simp only[Xp,Xq,reduceIte,Nat.reduceEqDiff,Nat.reduceLeDiff,x148_1,B.len,m,Y.idx F,B.idx L,Z,Q,R,S,T,q,f6,f7,f8,C,g,N,O,X5 I,WG];exact A
theorem iQ {E:Xb}{K:Nat}{s u:PL}{a b:List Nat}(j:V9 s a)(z:V9 u b)(B:WB a)(C:WB b)(F:a.length+b.length<1000000000000)(D:b.length<K)(t:Nat):
  ∀(d i k:Nat) (r:List Nat),i+d=a.length->d<k->r.length=a.length+b.length->WB r->(∀p,i+b.length<=p->p<a.length+b.length->r[p]? =some 0)->val r=val (a.take i)*val b->
  ∃c e,Xc E K 0 [0,1,5,6] x148_2 k ⟨[(0,.one (.p s)),(1,.one (.p u)),(5,.one (.own 0 0 0 (a.length+b.length))),(6,.one (.p (.int .i64 (.ofNat i))))],[⟨false,0,1,Wm r,false,t⟩]⟩=some (.exit 0,⟨c,[⟨false,0,1,Wm e,false,t⟩]⟩)/\
   Xh c 5=some (.one (.own 0 0 0 (a.length+b.length)))/\e.length=a.length+b.length/\WB e/\val e=val a*val b
 |_,_,0,_,_,h,_,_,_,_=>by omega
 |0,i,k+1,r,hi,_,h1,h2,h3,h4=>by
  obtain rfl:i=a.length:=by omega
  rw[Ym]at h4;have :∃c,Xc E K 0 [0,1,5,6] x148_2 (k+1) ⟨[(0,.one (.p s)),(1,.one (.p u)),(5,.one (.own 0 0 0 (a.length+b.length))),(6,.one (.p (.int .i64 (.ofNat a.length))))],[⟨false,0,1,Wm r,false,t⟩]⟩=some (.exit 0,⟨c,[⟨false,0,1,Wm r,false,t⟩]⟩)/\Xh c 5=some (.one (.own 0 0 0 (a.length+b.length))):=by
   apply VM
   ·rw[Xc];simp only[Xp,Xq,reduceIte,Nat.reduceEqDiff,x148_2,j.len,Zv];rfl
   ·simp only[Xp,reduceIte,Nat.reduceEqDiff]
  obtain⟨c,l,m⟩:=this;exact⟨c,r,l,m,h1,h2,h4⟩
 |d+1,i,k+1,r,hi,hk,h1,h2,h3,h4=>by
  have f:i<a.length:=by omega
  obtain⟨x,o⟩:∃x,a[i]? =some x:=⟨_,Zg f⟩;have q:=B.get o;obtain⟨V,U,A,M,⟨O,P,Q,R,S⟩,T,v,y,g,N⟩:=mH (E:=E) (K:=K) j z C F t o q (val r+x*4294967296^i*val b) b.length 0 K r 0 (by omega) D h1 h2 (by decide) h3 (by simp);have G:=g (i+b.length) (Zh _) (by omega);obtain⟨c,e,l,m⟩:=iQ j z B C F D t d (i+1) k (U.set (i+b.length) (A%4294967296)) (by omega) (by omega) (by simpa using T) (v.set _ (by omega))
   (fun p L n=>by rw[ZB (by omega)];exact g p (by omega) n) (by
    have e1:=Tl (w:=A%4294967296) G;rw[Zf y]at e1⊢;rw[Vk o,ZE,<-h4];omega)
  refine⟨c,e,?_,m⟩;have H:Xe .i64 (.ofNat (i+1))=.ofNat (i+1):=wrap_i64 (by omega);have I:Xe .i64 (.ofNat (i+b.length))=.ofNat (i+b.length):=wrap_i64 (by omega);have J:i+b.length<a.length+b.length:=by omega
  rw[Xc];simp only[Xp,Xq,reduceIte,Nat.reduceEqDiff,Nat.reduceLeDiff,x148_2,j.len,z.len,f,H,I,J,M,O,P,Q,R,S,X5 G,WG];exact l
theorem bk {B:Xr}(c:Std B){i lb:PL}{a b:List Nat}(k:V9 i a)(l:V9 lb b)(f:WB a)(g:WB b)(u:a.length+b.length<1000000000000):
  Xs B 148 [.one i,.one lb] (.one (.Xv (Ug (Xd (val a*val b))))):=by
 have d:=WN f;have e:=WN g;have h:=Sj c (ws:=dg (a.length+b.length) (val a*val b)) (by rw[Wd];omega);rw[TI (by rw[Nat.pow_add];exact YY d e)]at h;refine Xs.of (c.X6 _ _ rfl) (((X0.ge (a.length+b.length+1)).and (h.Xi.and c.Xi)).mono fun E K ⟨x,e1,v⟩=> ?_);obtain⟨w,z,p,q,r,s,t⟩:=iQ (E:=E) (K:=K) k l f g u (by omega) 161 a.length 0 K (List.replicate (a.length+b.length) 0) (by omega) (by omega) (by simp) (WB.replicate _)
  (fun j _ y=>by rw[Yp,if_pos (by omega)]) (by rw[VV];simp[val])
 obtain rfl:=Tu s r t;have m:Xe .i64 (.ofNat (a.length+b.length))=.ofNat (a.length+b.length):=wrap_i64 (by omega);have n:4*(a.length+b.length)<=lim:=by unfold lim;omega
 have o:a.length+b.length<=9223372036854775807:=by omega
 simp only[Xp,Xq,reduceIte,Nat.reduceEqDiff,Nat.reduceLeDiff,x148,k.len,l.len,m,n,o,Zh,UW,p,q,U2 _ (YN (Wd (a.length+b.length) (val a*val b))),Vb,Wd,V4,Ul,v,XW,e1]
theorem VP {B:Xr}(e:Std B){l:PL}{a:List Nat}(neg:Bool)(s:V9 l a)(d:WB a)(j:a.length<1000000000000):∃c,Xs B 122 [.one (.bool neg),.one l] (.agg c)/\UB c (if neg then -(val a:Int)else val a):=by
 obtain⟨r,g,b⟩:=uP e s (by omega);rw[UG d rfl]at b;have i:(if neg then -(val a:Int)else val a).natAbs=val a:=by cases neg<;>simp
 refine⟨[.bool (decide ((if neg then -(val a:Int)else val a)<0)),r],Xs.of (e.X6 _ _ rfl) ((g.Xi.and e.Xi).mono fun E K ⟨e1,f⟩=> ?_),r,rfl,by rw[i];exact b⟩;cases neg with
 |false=>
  have :¬((val a:Int)<0):=by omega
  simp only[Xp,Xq,reduceIte,Nat.reduceEqDiff,Nat.reduceLeDiff,x122,f,XW,e1,this]
 |true=>
  have h:((-(val a:Int))<0)=(0<(Xd (val a)).length):=by
   have:=@WU (val a);simp only[eq_iff_iff];omega
  simp only[Xp,Xq,reduceIte,Nat.reduceEqDiff,Nat.reduceLeDiff,x122,f,XW,e1,b.len,h]
theorem Rz {B:Xr}(a:Std B){m:Nat}(b:m<18446744073709551616):Xs B 123 [.one (.int .u64 (.ofNat m))] (.one (.Xv (Ug (Xd m)))):=by
 have e:Xs B 149 [.one (.Xv [[.int .u32 (.ofNat (m%4294967296))],[.int .u32 (.ofNat (m / 4294967296))]])] (.one (.Xv (Ug (Xd m)))):=by
  have:=Sj a (ws:=[m%4294967296,m / 4294967296]) (by simp);rw[UG (n:=m) (WB.mk (by omega) (WB.mk (by omega) WB.nil)) (by simp only[val];omega)]at this;exact this
 refine Xs.of (a.X6 _ _ rfl) ((e.Xi.and a.Xi).mono fun E K ⟨e1,b⟩=> ?_);have f:U9 .u64 (.ofNat m) (.ofNat 4294967296)=some (.p (.int .u64 (.ofNat (m%4294967296)))):=rfl;have g:Tx .u64 (.ofNat m) (.ofNat 4294967296)=some (.p (.int .u64 (Xe .u64 (.ofNat (m / 4294967296))))):=rfl;have c:m%4294967296%4294967296=m%4294967296:=Nat.mod_mod _ _;have d:m / 4294967296%18446744073709551616%4294967296=m / 4294967296:=by omega
 simp only[Xp,Xq,reduceIte,Nat.reduceEqDiff,Nat.reduceLeDiff,Nat.reduceLT,Nat.reduceAdd,x123,f,g,c,d,b,XW,e1]
theorem RZ {m:Nat}(h:m<18446744073709551616):(Xd m).length<=2:=Vc (by simpa using h)
theorem sD {B:Xr}(a:Std B){m:Nat}(i:m<9223372036854775808):∃c,Xs B 78 [.one (.int .i64 (.ofNat m))] (.agg c)/\UB c m:=by
 have g:=Rz a (m:=m) (by omega);have e:=RZ (m:=m) (by omega);obtain⟨c,h,b⟩:=VP a false (l:=.Xv (Ug (Xd m))) .Xv (Xn m) (by omega);rw[Xj]at b;refine⟨c,Xs.of (a.X6 _ _ rfl) ((g.Xi.and (h.Xi.and a.Xi)).mono fun E K ⟨e1,e2,d⟩=> ?_),by simpa using b⟩;obtain⟨l,rfl,-⟩:=b;have f:m%18446744073709551616=m:=Zf (by omega);simp only[Xp,Xq,reduceIte,Nat.reduceEqDiff,Nat.reduceLeDiff,Nat.reduceAdd,x78,f,Nat.not_lt_zero,d,XW,e1,e2]
theorem A9 {B:Xr}(a:Std B){m:Nat}(o:m<9223372036854775808):∃c,Xs B 78 [.one (.int .i64 (.negSucc m))] (.agg c)/\UB c (.negSucc m):=by
 have j:=Rz a (m:=m+1) (by omega);have f:=RZ (m:=m+1) (by omega);obtain⟨c,k,b⟩:=VP a true (l:=.Xv (Ug (Xd (m+1)))) .Xv (Xn _) (by omega);rw[Xj]at b;refine⟨c,Xs.of (a.X6 _ _ rfl) ((j.Xi.and (k.Xi.and a.Xi)).mono fun E K ⟨e1,e2,d⟩=> ?_),by simpa[Int.negSucc_eq]using b⟩;obtain⟨l,rfl,-⟩:=b;have g:m%18446744073709551616=m:=Zf (by omega);have h:(m+1)%18446744073709551616=m+1:=Zf (by omega);have i:Xe .i64 (0-Xe .i64 (Int.negSucc m+Int.ofNat 1))=.ofNat m:=by
  cases m with
  |zero=>rfl
  |succ m=>
   have e:(Int.negSucc (m+1)+Int.ofNat 1)=Int.negSucc m:=by simp only[Int.negSucc_eq,ZA];omega
   rw[e];have e2:Xe .i64 (Int.negSucc m)=Int.negSucc m:=by
    have h0:m%18446744073709551616=m:=Zf (by omega);have n:Nat.ble 9223372036854775808 (18446744073709551615-m)=true:=Qf (by omega);show UC .i64 (18446744073709551615-m%18446744073709551616)=_;rw[h0];show(bif true&&Nat.ble 9223372036854775808 (18446744073709551615-m)then _ else _)=_;rw[n];show Int.negSucc (18446744073709551616-(18446744073709551615-m)-1)=_;congr 1;omega
   rw[e2,show(0-Int.negSucc m:Int)=Int.ofNat (m+1)by simp only[Int.negSucc_eq,ZA];omega];exact wrap_i64 o
 simp only[Xp,Xq,reduceIte,Nat.reduceEqDiff,Nat.reduceLeDiff,Nat.reduceAdd,x78,i,g,h,d,XW,e1,e2]
theorem bD {B:Xr}(k:Std B){c:List PL}{z:Int}(l:UB c z):Xs B 114 [.agg c] (.one (.int .i64 (eT z))):=by
 obtain⟨m,rfl,i⟩:=l;refine Xs.of (k.X6 _ _ rfl) (X0.of fun K n=> ?_);unfold eT;by_cases f:z<0
 ·have h0:z≠0:=by omega
  simp only[Xp,Xq,reduceIte,Nat.reduceEqDiff,Nat.reduceLeDiff,Nat.reduceAdd,x114,h0,f]
 ·have d:∀n:Nat,RD (fun a b=>T5 b a) [.one (.p (.int .i64 (.ofNat n))),.one (.p (.int .i64 (.ofNat 1)))]=some ⟨.one (.p (.int .i64 (.ofNat (if n=0 then 0 else 1)))),[],[],[]⟩:=by
   intro n;simp only[RD,maxD,dF,ze,YG,cond_true,Nx,W5.pure];by_cases h:1<n
   ·simp only[h,decide_true,cond_true];rw[if_neg (by omega)]
   ·simp only[h,decide_false,cond_false];rcases Z8 n with e|e
    ·rw[if_pos e,e]
    ·rw[if_neg (by omega),show n=1 by omega]
  have g:((Xd z.natAbs).length=0)=(z=0):=by rw[eq_iff_iff,WU];omega
  by_cases h0:z=0
  ·rw[if_pos h0];have j:(Xd z.natAbs).length=0:=by rw[g];exact h0
   simp only[Xp,Xq,reduceIte,Nat.reduceEqDiff,Nat.reduceLeDiff,Nat.reduceAdd,x114,i.len,d,j,f]
  ·simp only[Xp,Xq,reduceIte,Nat.reduceEqDiff,Nat.reduceLeDiff,Nat.reduceAdd,x114,i.len,d,g,h0,f]
theorem xM {B:Xr}(d:Std B){c:List PL}{z:Int}(g:UB c z)(j:Sm z):∃a,Xs B 144 [.agg c] (.agg a)/\UB a (-z):=by
 obtain⟨m,rfl,i⟩:=g;unfold Sm at j;obtain⟨a,f,b⟩:=VP d (!decide (z<0)) i (Xn _) (by omega);rw[Xj]at b;refine⟨a,Xs.of (d.X6 _ _ rfl) ((f.Xi.and d.Xi).mono fun E K ⟨e2,e⟩=> ?_),?_⟩
 ·obtain⟨l,rfl,-⟩:=b;simp(decide:=true)only[Xp,Xq,reduceIte,Nat.reduceAdd,x144,e,XW,e2]
 ·have : -z=(if(!decide (z<0))=true then -(z.natAbs:Int)else z.natAbs):=by
   by_cases h:z<0
   ·simp[h];omega
   ·simp[h];omega
  rw[this];exact b
theorem SQ (m n:Nat):T5 (dH m n) (.ofNat 0)=decide (m<n):=by
 unfold dH;by_cases h:m<n
 ·rw[if_pos h,decide_eq_true h];rfl
 ·rw[if_neg h,decide_eq_false h];split<;>rfl
theorem RA {B:Xr}(b:Std B){c d:List PL}{x y:Int}(o:UB c x)(p:UB d y)(t:Sm x)(u:Sm y):∃e,Xs B 119 [.agg c,.agg d] (.agg e)/\UB e (x*y):=by
 obtain⟨m,rfl,q⟩:=o;obtain⟨n,rfl,r⟩:=p;unfold Sm at t u;have i:=bk b q r (Xn _) (Xn _) (by omega);rw[Xj,Xj]at i;have a:(Xd (x.natAbs*y.natAbs)).length<1000000000000:=by
  have:=Vq x.natAbs y.natAbs;omega
 obtain⟨e,j,f⟩:=VP b (decide (x<0)!=decide (y<0)) (l:=.Xv (Ug (Xd (x.natAbs*y.natAbs)))) .Xv (Xn _) a;rw[Xj]at f;refine⟨e,Xs.of (b.X6 _ _ rfl) ((i.Xi.and (j.Xi.and b.Xi)).mono fun E K ⟨e1,e2,g⟩=> ?_),?_⟩
 ·obtain⟨l,rfl,-⟩:=f;have s:((decide (x<0)==decide (y<0))!=true)=(decide (x<0)!=decide (y<0)):=by
   cases decide (x<0)<;>cases decide (y<0)<;>rfl
  simp(decide:=true)only[Xp,Xq,reduceIte,Nat.reduceAdd,x119,g,XW,e1,e2,s]
 ·have :x*y=(if(decide (x<0)!=decide (y<0))=true then -((x.natAbs*y.natAbs:Nat):Int)else((x.natAbs*y.natAbs:Nat):Int)):=by
   rw[Int.natCast_mul];by_cases h:x<0<;>by_cases k:y<0
   ·simp only[h,k,decide_true,bne_self_eq_false,Zz,if_false];rw[show(x.natAbs:Int)= -x by omega,show(y.natAbs:Int)= -y by omega];grind
   ·simp only[h,k,decide_true,decide_false,bne_iff_ne,ne_eq,Bool.true_eq_false,not_false_eq_true,if_true];rw[show(x.natAbs:Int)= -x by omega,show(y.natAbs:Int)=y by omega];grind
   ·simp only[h,k,decide_true,decide_false,bne_iff_ne,ne_eq,Zz,not_false_eq_true,if_true];rw[show(x.natAbs:Int)=x by omega,show(y.natAbs:Int)= -y by omega];grind
   ·simp only[h,k,decide_false,bne_self_eq_false,Zz,if_false];rw[show(x.natAbs:Int)=x by omega,show(y.natAbs:Int)=y by omega]
  rw[this];exact f
theorem yi {B:Xr}(b:Std B){c d:List PL}{x y:Int}(w:UB c x)(z:UB d y)(A:Sm x)(C:Sm y):∃e,Xs B 118 [.agg c,.agg d] (.agg e)/\UB e (x+y):=by
 obtain⟨m,rfl,s⟩:=w;obtain⟨n,rfl,t⟩:=z;unfold Sm at A C;by_cases q:decide (x<0)=decide (y<0)
 ·have i:=j8 b s t (Xn _) (Xn _) (by omega) (by omega);rw[Xj,Xj]at i;have a:(Xd (x.natAbs+y.natAbs)).length<1000000000000:=by
   have:=Uu x.natAbs y.natAbs;omega
  obtain⟨e,o,f⟩:=VP b (decide (x<0)) (l:=.Xv (Ug (Xd (x.natAbs+y.natAbs)))) .Xv (Xn _) a;rw[Xj]at f;refine⟨e,Xs.of (b.X6 _ _ rfl) ((i.Xi.and (o.Xi.and b.Xi)).mono fun E K ⟨e1,e2,g⟩=> ?_),?_⟩
  ·obtain⟨l,rfl,-⟩:=f;rw[<-q];have u:(decide (x<0)==decide (x<0))=true:=beq_self_eq_true _;simp(decide:=true)only[Xp,Xq,reduceIte,Nat.reduceAdd,x118,g,XW,e1,e2,u]
  ·have :x+y=(if decide (x<0)=true then -((x.natAbs+y.natAbs:Nat):Int)else((x.natAbs+y.natAbs:Nat):Int)):=by
    by_cases h:x<0
    ·have k:y<0:=by simpa[h]using q
     simp only[h,decide_true,if_true];omega
    ·have k:¬y<0:=by simpa[h]using q
     simp only[h,decide_false,Zz,if_false];omega
   rw[this];exact f
 ·have u:(decide (x<0)==decide (y<0))=false:=by simpa using q
  have h0:=aN b s t (Xn _) (Xn _) (Ws _) (Ws _) (by omega) (by omega);rw[Xj,Xj]at h0;have r:(x<0/\¬y<0)\/(¬x<0/\y<0):=by
   by_cases h:x<0<;>by_cases k:y<0<;>simp[h,k]at q⊢
  by_cases p:y.natAbs<=x.natAbs
  ·have j:¬x.natAbs<y.natAbs:=by omega
   have i:=bl b s t (Xn _) (Xn _) (XM p) (by omega) (by rw[Xj,Xj];exact p);rw[Xj,Xj]at i;have a:(Xd (x.natAbs-y.natAbs)).length<1000000000000:=by
    have:=XM (Nat.sub_le x.natAbs y.natAbs);omega
   obtain⟨e,o,f⟩:=VP b (decide (x<0)) (l:=.Xv (Ug (Xd (x.natAbs-y.natAbs)))) .Xv (Xn _) a;rw[Xj]at f;refine⟨e,Xs.of (b.X6 _ _ rfl) ((h0.Xi.and (i.Xi.and (o.Xi.and b.Xi))).mono fun E K ⟨v,e1,e2,g⟩=> ?_),?_⟩
   ·obtain⟨l,rfl,-⟩:=f;simp(decide:=true)only[Xp,Xq,reduceIte,Nat.reduceAdd,x118,g,XW,v,e1,e2,u,SQ,j]
   ·have :x+y=(if decide (x<0)=true then -((x.natAbs-y.natAbs:Nat):Int)else((x.natAbs-y.natAbs:Nat):Int)):=by
     rcases r with⟨h,k⟩|⟨h,k⟩
     ·simp only[h,decide_true,if_true];omega
     ·simp only[h,decide_false,Zz,if_false];omega
    rw[this];exact f
  ·have j:x.natAbs<y.natAbs:=by omega
   have i:=bl b t s (Xn _) (Xn _) (XM (by omega)) (by omega) (by rw[Xj,Xj];omega);rw[Xj,Xj]at i;have a:(Xd (y.natAbs-x.natAbs)).length<1000000000000:=by
    have:=XM (Nat.sub_le y.natAbs x.natAbs);omega
   obtain⟨e,o,f⟩:=VP b (decide (y<0)) (l:=.Xv (Ug (Xd (y.natAbs-x.natAbs)))) .Xv (Xn _) a;rw[Xj]at f;refine⟨e,Xs.of (b.X6 _ _ rfl) ((h0.Xi.and (i.Xi.and (o.Xi.and b.Xi))).mono fun E K ⟨v,e1,e2,g⟩=> ?_),?_⟩
   ·obtain⟨l,rfl,-⟩:=f;simp(decide:=true)only[Xp,Xq,reduceIte,Nat.reduceAdd,x118,g,XW,v,e1,e2,u,SQ,j]
   ·have :x+y=(if decide (y<0)=true then -((y.natAbs-x.natAbs:Nat):Int)else((y.natAbs-x.natAbs:Nat):Int)):=by
     rcases r with⟨h,k⟩|⟨h,k⟩
     ·simp only[k,decide_false,Zz,if_false];omega
     ·simp only[k,decide_true,if_true];omega
    rw[this];exact f
theorem cK {B:Xr}(b:Std B){l:PL}{a:List Nat}(s:V9 l a)(d:WB a)(h:a.length<=2):Xs B 171 [.one l] (.one (.int .u64 (.ofNat (val a)))):=by
 have h0:=Rs b s d 0;have g:=Rs b s d 1;have k:=TS d 0;have m:=TS d 1;have j:val a=a[1]?.getD 0*4294967296+a[0]?.getD 0:=by
  match a,h with
  |[],_=>rfl
  |[w],_=>simp[val]
  |[w,v],_=>simp[val];omega
 refine Xs.of (b.X6 _ _ rfl) ((h0.Xi.and (g.Xi.and b.Xi)).mono fun E K ⟨c,e1,i⟩=> ?_);rw[j];generalize a[1]?.getD 0=x at *;generalize a[0]?.getD 0=y at *;have e:x*4294967296%18446744073709551616=x*4294967296:=Zf (by omega);have f:(x*4294967296+y)%18446744073709551616=x*4294967296+y:=Zf (by omega);simp only[Xp,Xq,reduceIte,Nat.reduceEqDiff,Nat.reduceLeDiff,x171,i,XW,c,e1,e,f]
theorem kJ {E:Xb}{K:Nat}:∀(b a k:Nat) (H:List Xz),b<k->a<18446744073709551616->b<18446744073709551616->
  ∃c,Xc E K 0 [0,1] x170_1 k ⟨[(0,.one (.p (.int .u64 (.ofNat a)))),(1,.one (.p (.int .u64 (.ofNat b))))],H⟩=some (.exit 0,⟨c,H⟩)/\Xh c 0=some (.one (.p (.int .u64 (.ofNat (Nat.gcd a b))))):=by
 intro b;induction b using Nat.strongRecOn with
 |ind b h=>
  intro a k H m j l;obtain⟨k,rfl⟩:∃i,k=i+1:=⟨k-1,by omega⟩;cases b with
  |zero=>
   apply VM
   ·rw[Xc];simp only[Xp,Xq,reduceIte,Nat.reduceEqDiff,x170_1,Zv];rfl
   ·simp only[Xp,reduceIte,Nat.reduceEqDiff,Nat.gcd_zero_right]
  |succ b=>
   have d:a%(b+1)<b+1:=ZS _ (by omega);obtain⟨c,f,g⟩:=h (a%(b+1)) d (b+1) k H (by omega) (by omega) (by omega);have e:Nat.gcd a (b+1)=Nat.gcd (b+1) (a%(b+1)):=by
    rw[Nat.gcd_comm,Nat.gcd_rec];exact Nat.gcd_comm _ _
   refine⟨c,?_,by rw[g,e]⟩;rw[Xc];simp only[Xp,Xq,reduceIte,Nat.reduceEqDiff,x170_1,YF];exact f
theorem nh {B:Xr}(e:Std B){a b:Nat}(f:a<18446744073709551616)(g:b<18446744073709551616):Xs B 170 [.one (.int .u64 (.ofNat a)),.one (.int .u64 (.ofNat b))] (.one (.int .u64 (.ofNat (Nat.gcd a b)))):=by
 refine Xs.of (e.X6 _ _ rfl) ((X0.ge (b+1)).mono fun E K i=> ?_);obtain⟨h,c,d⟩:=kJ (E:=E) (K:=K) b a K [] (by omega) f g;simp only[Xp,Xq,reduceIte,Nat.reduceEqDiff,Nat.reduceLeDiff,x170,c,d]
theorem drop_set {a:List Nat}{n w:Nat}(h:n<a.length):(a.set n w).drop n=w::a.drop (n+1):=by
 rw[Z7 (by simpa using h),List.getElem_set_self,List.drop_set_of_lt (by omega)]
theorem cJ {E:Xb}{K:Nat}{v:PL}{a:List Nat}(B:V9 v a)(z:WB a)(H:a.length<1000000000000)(t:Nat){d:Nat}(A:0<d)(l:d<4294967296):
  ∀(n k:Nat) (q:List Nat) (r:Nat),n<k->n<=a.length->q.length=a.length->WB q->r<d->val (a.drop n)=d*val (q.drop n)+r->
  ∃b c g,Xc E K 0 [0,1,6,7,8] x197_1 k ⟨[(0,.one (.p v)),(1,.one (.p (.int .u64 (.ofNat d)))),(6,.one (.own 0 0 0 a.length)),(7,.one (.p (.int .u64 (.ofNat r)))),(8,.one (.p (.int .i64 (pI n))))],[⟨false,0,1,Wm q,false,t⟩]⟩=some (.exit 0,⟨b,[⟨false,0,1,Wm c,false,t⟩]⟩)/\
   (Xh b 6=some (.one (.own 0 0 0 a.length))/\Xh b 7=some (.one (.p (.int .u64 (.ofNat g)))))/\c.length=a.length/\WB c/\g<d/\val a=d*val c+g
 |_,0,_,_,h,_,_,_,_,_=>by omega
 |0,k+1,q,r,_,_,h1,h2,h3,h4=>by
  have :∃b,Xc E K 0 [0,1,6,7,8] x197_1 (k+1) ⟨[(0,.one (.p v)),(1,.one (.p (.int .u64 (.ofNat d)))),(6,.one (.own 0 0 0 a.length)),(7,.one (.p (.int .u64 (.ofNat r)))),(8,.one (.p (.int .i64 (pI 0))))],[⟨false,0,1,Wm q,false,t⟩]⟩=some (.exit 0,⟨b,[⟨false,0,1,Wm q,false,t⟩]⟩)/\
    (Xh b 6=some (.one (.own 0 0 0 a.length))/\Xh b 7=some (.one (.p (.int .u64 (.ofNat r))))):=by
   apply VM
   ·rw[Xc];simp only[Xp,Xq,reduceIte,Nat.reduceEqDiff,x197_1,pI];rfl
   ·simp only[Xp,reduceIte,Nat.reduceEqDiff,and_self]
  obtain⟨b,i,j⟩:=this;exact⟨b,q,r,i,j,h1,h2,h3,by simpa using h4⟩
 |n+1,k+1,q,r,hk,hn,h1,h2,h3,h4=>by
  obtain⟨w,o⟩:∃w,a[n]? =some w:=⟨_,Zg (by omega)⟩;obtain⟨u,L⟩:∃u,q[n]? =some u:=⟨_,Zg (by omega)⟩;have M:=z.get o;obtain⟨s,J⟩:∃s,s=r*4294967296+w:=⟨_,rfl⟩;have f:s / d<4294967296:=Yj (by
   have:=Zo 4294967296 (show r+1<=d from h3);rw[ZE]at this;omega)
  have C:w%18446744073709551616=w:=Zf (by omega);have D:r*4294967296%18446744073709551616=r*4294967296:=Zf (by omega);have F:(r*4294967296+w)%18446744073709551616=s:=by rw[<-J];exact Zf (by omega)
  have G:Xe .u32 (Xe .u64 (.ofNat (s / d)))=.ofNat (s / d):=by
   rw[wrap_u64,Zf (show s / d<18446744073709551616 by omega),wrap_u32,Zf f]
  have N:U9 .u64 (.ofNat s) (.ofNat d)=some (.p (.int .u64 (.ofNat (s%d)))):=by
   obtain⟨e,rfl⟩:∃e,d=e+1:=⟨d-1,by omega⟩;rfl
  have O:Tx .u64 (.ofNat s) (.ofNat d)=some (.p (.int .u64 (Xe .u64 (.ofNat (s / d))))):=by
   obtain⟨e,rfl⟩:∃e,d=e+1:=⟨d-1,by omega⟩;rfl
  have I:=Uo (n:=n) (by omega);have m:n<a.length:=by omega
  obtain⟨b,c,g,i,j⟩:=cJ B z H t A l n k (q.set n (s / d)) (s%d) (by omega) (by omega) (by simpa using h1) (h2.set n f) (ZS _ A) (by
   rw[drop_set (by omega),PS o,h4];simp only[val];have:=Yw s d;generalize s / d=x at *;generalize s%d=y at *
   grind)
  refine⟨b,c,g,?_,j⟩;rw[Xc];simp only[Xp,Xq,reduceIte,Nat.reduceEqDiff,Nat.reduceLeDiff,x197_1,pI,Zs,B.idx o,C,D,F,N,O,m,X5 L,I];simp only[<-wrap_u64,<-wrap_u32,G,WG];exact i
theorem eX {B:Xr}(c:Std B){la:PL}{a:List Nat}(o:V9 la a)(j:WB a)(w:a.length<1000000000000){d:Nat}(e:0<d)(f:d<4294967296):
  Xs B 197 [.one la,.one (.int .u64 (.ofNat d))] (.XY [.one (.Xv (Ug (Xd (val a / d)))),.one (.int .u64 (.ofNat (val a%d)))]):=by
 have i:=WN j;have y:val a / d<4294967296^a.length:=Z5 (Nat.div_le_self _ _) i;have m:=Sj c (ws:=dg a.length (val a / d)) (by rw[Wd];omega);rw[TI y]at m;refine Xs.of (c.X6 _ _ rfl) (((X0.ge (a.length+1)).and (m.Xi.and c.Xi)).mono fun E K ⟨D,e1,x⟩=> ?_);obtain⟨C,z,A,s,⟨t,b⟩,u,v,k,l⟩:=cJ (E:=E) (K:=K) o j w 161 e f a.length K (List.replicate a.length 0) 0 (by omega) (Zh _) (by simp) (WB.replicate _) e (by simp[val]);have g:val z=val a / d:=by
  rw[l,Nat.mul_add_div e,YJ k];omega
 have h:A=val a%d:=by
  rw[l,Nat.mul_add_mod,Zf k]
 obtain rfl:=Tu v u g;subst h;have p:=Uo (n:=a.length) (by omega);have q:4*a.length<=lim:=by unfold lim;omega
 have r:a.length<=9223372036854775807:=by omega
 simp only[Xp,Xq,reduceIte,Nat.reduceEqDiff,Nat.reduceLeDiff,x197,o.len,p,q,r,Zh,UW,s,t,b,U2 _ (YN (Wd a.length (val a / d))),Vb,Wd,V4,Ul,x,XW,e1]
def mg (x:Int):Prop:=x.natAbs<4294967296
theorem mg.sm {x:Int}(h:mg x):Sm x:=by unfold mg at h;unfold Sm;have:=RZ (m:=x.natAbs) (by omega);omega
theorem qy {B:Xr}(a:Std B){x:Int}(b:mg x):∃c,Xs B 37 [.one (.int .i64 x)] (.agg c)/\Cu c x:=by
 unfold mg at b;obtain⟨c,i,e⟩:∃c,Xs B 78 [.one (.int .i64 x)] (.agg c)/\UB c x:=by
  cases x with
  |ofNat m=>exact sD a (by simp at b;omega)
  |negSucc m=>exact A9 a (by simp at b;omega)
 obtain⟨d,j,f⟩:=sD a (m:=1) (by decide);obtain⟨l,n,g⟩:=e.len;obtain⟨o,p,h⟩:=f.len;subst g h;refine⟨_,Xs.of (a.X6 _ _ rfl) ((i.Xi.and (j.Xi.and a.Xi)).mono fun E K ⟨e1,e2,k⟩=> ?_),⟨_,_,_,_,rfl,e,f⟩⟩;simp(decide:=true)only[Xp,Xq,reduceIte,Nat.reduceAdd,x37,k,XW,e1,e2]
end Go.Proofs.YtefpgecinlekpaaGreat
