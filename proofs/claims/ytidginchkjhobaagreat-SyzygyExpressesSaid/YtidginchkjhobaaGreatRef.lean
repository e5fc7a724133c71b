/- The reference's integers: words. -/
import Derived.Test.YtidginchkjhobaaGreatInt
namespace Go.Ev
open Go.Proofs.YtidginchkjhobaaGreat
theorem aT {E}{K}{l}{a}(s:UB l a)(g:a.length<9223372036854775808):∀n k H,n<k->n<=a.length->
  ∃b,Xb E K 0 [0,3] x139_1 k ⟨[(0,La4 l),(3,La1 n)],H⟩=some (.exit 0,⟨b,H⟩)/\Xi b 0=some (La4 l)/\Xi b 3=some (La1 (VC (a.take n)).length)
 |_,0,_,h,_=>by omega
 |0,k+1,H,_,_=>by
  apply VW
  ·rw[Xb];simp only[Xo,Xs,reduceIte,Nat.reduceEqDiff,x139_1,Zx];rfl
  ·simp only[Xo,reduceIte,Nat.reduceEqDiff,VC,and_self]
 |n+1,k+1,H,hk,hn=>by
  obtain⟨w,c⟩:∃w,a[n]? =some w:=⟨_,Zd (by omega)⟩;have d:Xd .i64 (Int.ofNat (n+1)-Int.ofNat 1)=Int.ofNat n:=X9 (by omega) (by omega);rw[mZ c,dR];by_cases h0:w=0
  ·subst h0;obtain⟨b,e,f⟩:=aT s g n k H (by omega) (by omega);refine⟨b,?_,f⟩;rw[Xb];simp only[Xo,Xs,reduceIte,Nat.reduceEqDiff,x139_1,Yu,d,s.idx c];exact e
  ·apply VW
   ·rw[Xb];simp only[Xo,Xs,reduceIte,Nat.reduceEqDiff,x139_1,Yu,d,s.idx c,h0];rfl
   ·simp only[Xo,reduceIte,Nat.reduceEqDiff,h0,Zn,Z4,Nat.min_eq_left (show n<=a.length by omega),and_self]
theorem Ra {B}(g:Std B){ws}(i:ws.length<9223372036854775808):Xv B 139 [.one (.Xl (UI ws))] (.one (.Xl (UI (VC ws)))):=by
 have s:UB (.Xl (UI ws)) ws:=.Xl;refine Xv.of (g.Wa _ _ rfl) ((XT.ge (ws.length+1)).mono fun E K k=> ?_);obtain⟨j,d,e,b⟩:=aT (E:=E) (K:=K) s i ws.length K [] (by omega) (Zf _);rw[Yg]at b;have a:∀h,WN 1 h (.p (.Xl (UI ws))) 0 (some (VC ws).length)=some (.p (.Xl (UI (VC ws))),[]):=by
  intro h;obtain⟨r,a,c⟩:=s.upto (n:=(VC ws).length) (bM ws);have:=a h;rw[<-gN]at c;rcases c with rfl|⟨-,rfl⟩
  ·exact this
  ·simp only[WN]at this;obtain⟨-,f⟩:=X4 this;simp at f
 simp only[Xo,Xs,reduceIte,Nat.reduceEqDiff,Nat.reduceLeDiff,x139,s.len,d,e,b,a]
theorem Aw {B}(g:Std B){l}{a}(s:UB l a)(h:a.length<9223372036854775808):∃r,Xv B 139 [.one l] (.one r)/\UB r (VC a):=by
 obtain⟨r,f,c⟩:=s.upto (n:=(VC a).length) (bM a);rw[<-gN]at c;refine⟨r,Xv.of (g.Wa _ _ rfl) ((XT.ge (a.length+1)).mono fun E K j=> ?_),c⟩;obtain⟨i,d,e,b⟩:=aT (E:=E) (K:=K) s h a.length K [] (by omega) (Zf _);rw[Yg]at b;simp only[Xo,Xs,reduceIte,Nat.reduceEqDiff,Nat.reduceLeDiff,x139,s.len,d,e,b,f]
theorem aN {E}{K}{s t}{a b}(i:UB s a)(j:UB t b)(q:WR a)(r:WR b)(l:a.length=b.length)(A:a.length<10000000000000):∀n k H,n<k->n<=a.length->
  ∃c d,Xb E K 0 [0,1,5] x127_1 k ⟨[(0,La4 s),(1,La4 t),(5,La4 (.int .i64 (pI n)))],H⟩=some (c,⟨d,H⟩)/\
   ((val (a.take n)=val (b.take n)/\c=.exit 0)\/(val (a.take n)<val (b.take n)/\c=.ret/\Xi d 4=some (La4 (.int .i64 (.negSucc 0))))\/(val (b.take n)<val (a.take n)/\c=.ret/\Xi d 4=some (La1 1)))
 |_,0,_,h,_=>by omega
 |0,k+1,H,_,_=>by
  refine⟨.exit 0,?_⟩;apply VW
  ·rw[Xb];simp only[Xo,Xs,reduceIte,Nat.reduceEqDiff,x127_1,pI];rfl
  ·exact .inl ⟨rfl,rfl⟩
 |n+1,k+1,H,hk,hn=>by
  obtain⟨w,g⟩:∃w,a[n]? =some w:=⟨_,Zd (by omega)⟩;obtain⟨v,f⟩:∃v,b[n]? =some v:=⟨_,Zd (by omega)⟩;have z:=UR (n:=n) (by omega);have B:val (a.take n)<4294967296^n:=by
   have:=Vd (ws:=a.take n) (fun x m=>q x (List.mem_of_mem_take m))
   rwa[Z4,Nat.min_eq_left (by omega)]at this
  have C:val (b.take n)<4294967296^n:=by
   have:=Vd (ws:=b.take n) (fun x m=>r x (List.mem_of_mem_take m))
   rwa[Z4,Nat.min_eq_left (by omega)]at this
  rw[VQ g,VQ f];by_cases e:w=v
  ·subst e;obtain⟨c,d,u,y⟩:=aN i j q r l A n k H (by omega) (by omega);refine⟨c,d,?_,y.imp (fun h=>⟨by omega,h.2⟩) fun h=>h.imp (fun h=>⟨by omega,h.2⟩) fun h=>⟨by omega,h.2⟩⟩;rw[Xb];simp only[Xo,Xs,reduceIte,Nat.reduceEqDiff,x127_1,pI,Zw,i.idx g,j.idx f,z,Zx];exact u
  ·by_cases o:w<v
   ·have:=Zm (4294967296^n) (show w+1<=v from o);rw[ZX,Yf]at this;refine⟨.ret,?_⟩;apply VW
    ·rw[Xb];simp only[Xo,Xs,reduceIte,Nat.reduceEqDiff,x127_1,pI,Zw,i.idx g,j.idx f,o];rfl
    ·exact .inr (.inl ⟨by omega,rfl,by simp only[Xo,reduceIte,Nat.reduceEqDiff]⟩)
   ·have:=Zm (4294967296^n) (show v+1<=w by omega);rw[ZX,Yf]at this;refine⟨.ret,?_⟩;apply VW
    ·rw[Xb];simp only[Xo,Xs,reduceIte,Nat.reduceEqDiff,x127_1,pI,Zw,i.idx g,j.idx f,o,show v<w by omega];rfl
    ·exact .inr (.inr ⟨by omega,rfl,by simp only[Xo,reduceIte,Nat.reduceEqDiff]⟩)
theorem OA {B}(s:Std B){o p}{a b}(f:UB o a)(g:UB p b)(j:WR a)(m:WR b)(r:Canon a)(l:Canon b)(t:a.length<10000000000000)(x:b.length<10000000000000):
  Xv B 127 [.one o,.one p] (.one (.int .i64 (gH (val a) (val b)))):=by
 refine Xv.of (s.Wa _ _ rfl) ((XT.ge (a.length+1)).mono fun E K w=> ?_);by_cases c:a.length=b.length
 ·obtain⟨v,u,k,d⟩:=aN (E:=E) (K:=K) f g j m c t a.length K [] (by omega) (Zf _);rw[Yg,c,Yg]at d;rw[c]at k;have i:=UR (n:=b.length) (by omega);unfold gH;rcases d with⟨e,rfl⟩|⟨e,rfl,d⟩|⟨e,rfl,d⟩
  ·simp only[Xo,Xs,reduceIte,Nat.reduceEqDiff,Nat.reduceLeDiff,x127,f.len,g.len,c,Zx,i,k,e,Zx]
  ·simp only[Xo,Xs,reduceIte,Nat.reduceEqDiff,Nat.reduceLeDiff,x127,f.len,g.len,c,Zx,i,k,e,d]
  ·simp only[Xo,Xs,reduceIte,Nat.reduceEqDiff,Nat.reduceLeDiff,x127,f.len,g.len,c,Zx,i,k,e,d,Nat.lt_asymm e]
 ·have q:∀{a b:P'},WR a->Canon b->a.length<b.length->val a<val b:=by
   intro a b j l h;have i:=ZO (Vd j) (VP (Nat.le_of_lt_succ (by omega:a.length<b.length-1+1)));exact ZO i (PT l (by omega))
  unfold gH;by_cases h:a.length<b.length
  ·have e:=q j l h;simp only[Xo,Xs,reduceIte,Nat.reduceEqDiff,Nat.reduceLeDiff,x127,f.len,g.len,h,e]
  ·have e:=q m r (by omega);simp only[Xo,Xs,reduceIte,Nat.reduceEqDiff,Nat.reduceLeDiff,x127,f.len,g.len,h,show b.length<a.length by omega,e,Nat.lt_asymm e]
theorem Qe {B}(e:Std B){l}{a}(s:UB l a)(d:WR a)(i):Xv B 163 [.one l,.one (La0 i)] (.one (La2 (a[i]?.getD 0))):=by
 refine Xv.of (e.Wa _ _ rfl) (XT.of fun K n=> ?_);by_cases h:i<a.length
 ·obtain⟨w,b⟩:∃w,a[i]? =some w:=⟨_,Zd h⟩;have c:w%18446744073709551616=w:=Zi (by have:=d.get b;omega);simp only[Xo,Xs,reduceIte,Nat.reduceEqDiff,Nat.reduceLeDiff,x163,s.len,h,s.idx b,c,b,Option.getD_some]
 ·have b:a[i]? =none:=List.getElem?_eq_none (by omega);simp only[Xo,Xs,reduceIte,Nat.reduceEqDiff,Nat.reduceLeDiff,x163,s.len,h,b,Option.getD_none]
theorem cR {a:P'}(d:WR a)(i:Nat):a[i]?.getD 0<4294967296:=by
 cases h:a[i]? with
 |none=>simp
 |some w=>exact d.get h
theorem lI {E:Xa}{K:Nat}{z A:PL}{a b:P'}(B:WR a)(C:WR b){n:Nat}(T:n<10000000000000)(L:E.mode=md)
  (D:∀i,i<n->E.pure 163 [.one z,.one (La0 i)]=some (.one (La2 (a[i]?.getD 0))))
  (F:∀i,i<n->E.pure 163 [.one A,.one (La0 i)]=some (.one (La2 (b[i]?.getD 0)))) (t:Nat):
  ∀(d i k:Nat) (r:P') (c:Nat),i+d=n->d<k->r.length=n->WR r->c<2->(∀j,i<=j->j<n->r[j]? =some 0)->val r+c*4294967296^i=val (a.take i)+val (b.take i)->
  ∃e l f,Xb E K 0 [0,1,5,6,7,8] x126_1 k ⟨[(0,La4 z),(1,La4 A),(5,La1 n),(6,.one (.own 0 0 0 n)),(7,La3 c),(8,La1 i)],[⟨false,0,1,Wn r,false,t⟩]⟩=some (.exit 0,⟨e,[⟨false,0,1,Wn l,false,t⟩]⟩)/\
   Xi e 6=some (.one (.own 0 0 0 n))/\l.length=n/\WR l/\val l+f*4294967296^n=val (a.take n)+val (b.take n)
 |_,_,0,_,_,_,h,_,_,_,_,_=>by omega
 |0,i,k+1,r,c,hi,_,h1,h2,h3,h4,h5=>by
  obtain rfl:i=n:=by omega
  have :∃e,Xb E K 0 [0,1,5,6,7,8] x126_1 (k+1) ⟨[(0,La4 z),(1,La4 A),(5,La1 i),(6,.one (.own 0 0 0 i)),(7,La3 c),(8,La1 i)],[⟨false,0,1,Wn r,false,t⟩]⟩=some (.exit 0,⟨e,[⟨false,0,1,Wn r,false,t⟩]⟩)/\Xi e 6=some (.one (.own 0 0 0 i)):=by
   apply VW
   ·rw[Xb];simp only[Xo,Xs,reduceIte,Nat.reduceEqDiff,x126_1,Zx];rfl
   ·simp only[Xo,reduceIte,Nat.reduceEqDiff]
  obtain⟨e,q,s⟩:=this;exact⟨e,r,c,q,s,h1,h2,h5⟩
 |d+1,i,k+1,r,c,hi,hk,h1,h2,h3,h4,h5=>by
  have g:i<n:=by omega
  have V:=cR B i;have U:=cR C i;have m:=D i g;have o:=F i g;have P:=dQ a i;have Q:=dQ b i;generalize a[i]?.getD 0=w at *;generalize b[i]?.getD 0=v at *;have M:=h4 i (Zf _) (by omega);have G:(w+v)%18446744073709551616=w+v:=Zi (by omega);have H:(w+v+c)%18446744073709551616=w+v+c:=Zi (by omega);have R:Xd .i64 (.ofNat (i+1))=.ofNat (i+1):=wrap_i64 (by omega);have I:(w+v+c)%4294967296%4294967296=(w+v+c)%4294967296:=Nat.mod_mod _ _;have J:(w+v+c) / 4294967296%18446744073709551616=(w+v+c) / 4294967296:=Zi (by omega);have N:TN .u64 (.ofNat (w+v+c)) (.ofNat 4294967296)=some (.p (La2 ((w+v+c)%4294967296))):=rfl;have O:U5 .u64 (.ofNat (w+v+c)) (.ofNat 4294967296)=some (.p (.int .u64 (Xd .u64 (.ofNat ((w+v+c) / 4294967296))))):=rfl;obtain⟨e,l,f,q,s⟩:=lI B C T L D F t d (i+1) k (r.set i ((w+v+c)%4294967296)) ((w+v+c) / 4294967296) (by omega) (by omega) (by simpa using h1) (h2.set i (by omega)) (by omega)
   (fun j S u=>by rw[ZY (by omega)];exact h4 j (by omega) u) (by
    have e1:=TZ (w:=(w+v+c)%4294967296) M;rw[P,Q];have e2:(w+v+c)%4294967296+4294967296*((w+v+c) / 4294967296)=w+v+c:=Nat.mod_add_div _ _;rw[ZI];clear I J N O G H;generalize (w+v+c)%4294967296=x at *;generalize (w+v+c) / 4294967296=y at *;generalize 4294967296^i=p at *
    grind)
  refine⟨e,l,f,?_,s⟩;rw[Xb];simp only[Xo,Xs,reduceIte,Nat.reduceEqDiff,Nat.reduceLeDiff,x126_1,g,L,X3,m,o,G,H,R,I,J,N,O,X7 M,W3];exact q
theorem oO {B}(d:Std B){m lb}{a b}(o:UB m a)(q:UB lb b)(e:WR a)(f:WR b)(N:a.length<2000000000000)(O:b.length<2000000000000):
  Xv B 126 [.one m,.one lb] (.one (.Xl (UI (Xe (val a+val b))))):=by
 obtain⟨n,Q⟩:∃n,n=max a.length b.length+1:=⟨_,rfl⟩;have H:val a+val b<4294967296^n:=by
  have g:=ZO (Vd e) (VP (show a.length<=n-1 by omega));have L:=ZO (Vd f) (VP (show b.length<=n-1 by omega));have :4294967296^n=4294967296^(n-1)*4294967296:=by rw[<-ZI];congr 1;omega
  omega
 have g:=Ra d (ws:=dg n (val a+val b)) (by rw[Wh];omega);rw[SD H]at g;refine Xv.of (d.Wa _ _ rfl) (((XT.ge (n+1)).and (g.Xk.and (d.Xk.and ((XT.all n fun i _=>(Qe d o e i).Xk).and (XT.all n fun i _=>(Qe d q f i).Xk))))).mono fun E K ⟨M,e1,l,r,s⟩=> ?_);obtain⟨J,I,c,z,A,C,D,F⟩:=lI (E:=E) (K:=K) e f (show n<10000000000000 by omega) l r s 177 n 0 K (List.replicate n 0) 0 (by omega) (by omega) (by simp) (WR.replicate _) (by decide)
  (fun j _ P=>by rw[YE,if_pos (by omega)]) (by rw[Uj];simp[val])
 rw[Ze (show a.length<=n by omega),Ze (show b.length<=n by omega)]at F;have k:I=dg n (val a+val b):=by
  have G:c=0:=by
   rcases Yk c with h|h
   ·exact h
   ·have:=Zm (4294967296^n) h;omega
  subst G;exact Sd D C (by omega)
 subst k;have t:maxD S6 .i64 (.ofNat a.length) [La1 b.length]=some (La1 (n-1)):=by
  simp only[maxD,gG,Eu,Yw,cond_true,bk];by_cases h:a.length<b.length
  ·simp only[h,decide_true,cond_true];congr 5;omega
  ·simp only[h,decide_false,cond_false];congr 5;omega
 have u:Xd .i64 (.ofNat (n-1+1))=.ofNat n:=by rw[show n-1+1=n by omega];exact wrap_i64 (by omega)
 have w:4*n<=lim:=by unfold lim;omega
 have x:n<=9223372036854775807:=by omega
 have y:∀v,Qt S6 (La1 a.length::v)=(match maxD S6 .i64 (.ofNat a.length) v with |some v=>some ⟨v,[],[],[]⟩|none=>none):=fun _=>rfl
 simp only[Xo,Xs,reduceIte,Nat.reduceEqDiff,Nat.reduceLeDiff,x126,o.len,q.len,y,t,u,w,x,Zf,Ty,z,A,Sp _ (Yv (Wh n (val a+val b))),VE,Wh,Uv,UK,l,X3,e1]
theorem Pm {a b}(h:b<=a)(c:a<18446744073709551616):Xd .u64 (.ofNat a-.ofNat b)=.ofNat (a-b):=by
 rw[iP h,wrap_u64,Zi (by omega)]
theorem iM {E:Xa}{K:Nat}{B C:PL}{a b:P'}(m:UB B a)(D:WR a)(F:WR b)(W:a.length<10000000000000)(L:E.mode=md)
  (G:∀i,i<a.length->E.pure 163 [.one C,.one (La0 i)]=some (.one (La2 (b[i]?.getD 0)))) (t:Nat):
  ∀(d i k:Nat) (r:P') (c:Nat),i+d=a.length->d<k->r.length=a.length->WR r->c<2->(∀j,i<=j->j<a.length->r[j]? =some 0)->val r+val (b.take i)=val (a.take i)+c*4294967296^i->
  ∃e g f,Xb E K 0 [0,1,5,6,7] x128_1 k ⟨[(0,La4 B),(1,La4 C),(5,.one (.own 0 0 0 a.length)),(6,La3 c),(7,La1 i)],[⟨false,0,1,Wn r,false,t⟩]⟩=some (.exit 0,⟨e,[⟨false,0,1,Wn g,false,t⟩]⟩)/\
   Xi e 5=some (.one (.own 0 0 0 a.length))/\g.length=a.length/\WR g/\val g+val (b.take a.length)=val a+f*4294967296^a.length
 |_,_,0,_,_,_,h,_,_,_,_,_=>by omega
 |0,i,k+1,r,c,hi,_,h1,h2,h3,h4,h5=>by
  obtain rfl:i=a.length:=by omega
  rw[Yg]at h5;have :∃e,Xb E K 0 [0,1,5,6,7] x128_1 (k+1) ⟨[(0,La4 B),(1,La4 C),(5,.one (.own 0 0 0 a.length)),(6,La3 c),(7,La1 a.length)],[⟨false,0,1,Wn r,false,t⟩]⟩=some (.exit 0,⟨e,[⟨false,0,1,Wn r,false,t⟩]⟩)/\
    Xi e 5=some (.one (.own 0 0 0 a.length)):=by
   apply VW
   ·rw[Xb];simp only[Xo,Xs,reduceIte,Nat.reduceEqDiff,x128_1,m.len,Zx];rfl
   ·simp only[Xo,reduceIte,Nat.reduceEqDiff]
  obtain⟨e,q,u⟩:=this;exact⟨e,r,c,q,u,h1,h2,h5⟩
 |d+1,i,k+1,r,c,hi,hk,h1,h2,h3,h4,h5=>by
  obtain⟨w,A⟩:∃w,a[i]? =some w:=⟨_,Zd (by omega)⟩;have l:i<a.length:=by omega
  have Y:=D.get A;have M:=h4 i (Zf _) (by omega);have X:=cR F i;have n:=G i l;have Q:=dQ b i;generalize b[i]?.getD 0=v at *;have R:w%18446744073709551616=w:=Zi (by omega);have S:(4294967296+w)%18446744073709551616=4294967296+w:=Zi (by omega);have T:Xd .i64 (.ofNat (i+1))=.ofNat (i+1):=wrap_i64 (by omega);have U:=Pm (a:=4294967296+w) (b:=v) (by omega) (by omega);have o:=Pm (a:=4294967296+w-v) (b:=c) (by omega) (by omega);obtain⟨s,N⟩:∃s,s=4294967296+w-v-c:=⟨_,rfl⟩;rw[<-N]at o;have H:s%4294967296%4294967296=s%4294967296:=Nat.mod_mod _ _;have I:s / 4294967296%18446744073709551616=s / 4294967296:=Zi (by omega);have J:=Pm (a:=1) (b:=s / 4294967296) (by omega) (by omega);have O:TN .u64 (.ofNat s) (.ofNat 4294967296)=some (.p (La2 (s%4294967296))):=rfl;have P:U5 .u64 (.ofNat s) (.ofNat 4294967296)=some (.p (.int .u64 (Xd .u64 (.ofNat (s / 4294967296))))):=rfl;have Z:s%4294967296+c+v=w+4294967296*(1-s / 4294967296):=by omega
  obtain⟨e,g,f,q,u⟩:=iM m D F W L G t d (i+1) k (r.set i (s%4294967296)) (1-s / 4294967296) (by omega) (by omega) (by simpa using h1) (h2.set i (by omega)) (by omega)
   (fun j V z=>by rw[ZY (by omega)];exact h4 j (by omega) z) (by
    have e1:=TZ (w:=s%4294967296) M;rw[VQ A,Q,ZI];clear O P H I J o N;generalize s%4294967296=x at *;generalize 1-s / 4294967296=y at *;generalize 4294967296^i=p at *
    grind)
  refine⟨e,g,f,?_,u⟩;rw[Xb];simp only[Xo,Xs,reduceIte,Nat.reduceEqDiff,Nat.reduceLeDiff,x128_1,m.len,l,m.idx A,L,X3,n,R,S,T,U,o,H,I,J,O,P,X7 M,W3];exact q
theorem dW {B}(d:Std B){q r}{a b}(s:UB q a)(C:UB r b)(k:WR a)(l:WR b)(e:b.length<=a.length)(H:a.length<2000000000000)(I:val b<=val a):
  Xv B 128 [.one q,.one r] (.one (.Xl (UI (Xe (val a-val b))))):=by
 have z:=Vd k;have o:=Ra d (ws:=dg a.length (val a-val b)) (by rw[Wh];omega);rw[SD (by omega)]at o;refine Xv.of (d.Wa _ _ rfl) (((XT.ge (a.length+1)).and (o.Xk.and (d.Xk.and (XT.all a.length fun i _=>(Qe d C l i).Xk)))).mono fun E K ⟨F,e1,p,t⟩=> ?_);obtain⟨D,A,c,w,x,m,n,y⟩:=iM (E:=E) (K:=K) s k l (by omega) p t 177 a.length 0 K (List.replicate a.length 0) 0 (by omega) (by omega) (by simp) (WR.replicate _) (by decide)
  (fun j _ G=>by rw[YE,if_pos (by omega)]) (by rw[Uj];simp[val])
 rw[Ze e]at y;have g:A=dg a.length (val a-val b):=by
  have:=Vd n;rw[m]at this;have f:c=0:=by
   rcases Yk c with h|h
   ·exact h
   ·have:=Zm (4294967296^a.length) h;omega
  subst f;exact Sd n m (by omega)
 subst g;have u:4*a.length<=lim:=by unfold lim;omega
 have v:a.length<=9223372036854775807:=by omega
 simp only[Xo,Xs,reduceIte,Nat.reduceEqDiff,Nat.reduceLeDiff,x128,s.len,u,v,Zf,Ty,w,x,Sp _ (Yv (Wh a.length (val a-val b))),VE,Wh,Uv,UK,p,X3,e1]
theorem sa {E}{K}{n o}{a b}(Y:UB n a)(B:UB o b)(P:WR b)(hl:a.length+b.length<10000000000000)(t){i x}(F:a[i]? =some x)(X:x<4294967296)(V):
  ∀d j k r e,j+d=b.length->d<k->r.length=a.length+b.length->WR r->e<4294967296->(∀p,i+b.length<=p->p<a.length+b.length->r[p]? =some 0)->val r+e*4294967296^(i+j)+x*4294967296^(i+j)*val (b.drop j)=V->
  ∃c l f,Xb E K 0 [0,1,5,6,7,8] x129_1 k ⟨[(0,La4 n),(1,La4 o),(5,.one (.own 0 0 0 (a.length+b.length))),(6,La1 i),(7,La3 e),(8,La1 j)],[⟨false,0,1,Wn r,false,t⟩]⟩=some (.exit 2,⟨c,[⟨false,0,1,Wn l,false,t⟩]⟩)/\
   (Xi c 0=some (La4 n)/\Xi c 1=some (La4 o)/\Xi c 5=some (.one (.own 0 0 0 (a.length+b.length)))/\Xi c 6=some (La1 i)/\Xi c 7=some (La3 f))/\l.length=a.length+b.length/\WR l/\f<4294967296/\(∀p,i+b.length<=p->p<a.length+b.length->l[p]? =some 0)/\val l+f*4294967296^(i+b.length)=V
 |_,_,0,_,_,_,h,_,_,_,_,_=>by omega
 |0,j,k+1,r,e,hj,_,h1,h2,h3,h4,h5=>by
  obtain rfl:j=b.length:=by omega
  have :∃c,Xb E K 0 [0,1,5,6,7,8] x129_1 (k+1) ⟨[(0,La4 n),(1,La4 o),(5,.one (.own 0 0 0 (a.length+b.length))),(6,La1 i),(7,La3 e),(8,La1 b.length)],[⟨false,0,1,Wn r,false,t⟩]⟩=some (.exit 2,⟨c,[⟨false,0,1,Wn r,false,t⟩]⟩)/\(Xi c 0=some (La4 n)/\Xi c 1=some (La4 o)/\Xi c 5=some (.one (.own 0 0 0 (a.length+b.length)))/\Xi c 6=some (La1 i)/\Xi c 7=some (La3 e)):=by
   apply VW
   ·rw[Xb];simp only[Xo,Xs,reduceIte,Nat.reduceEqDiff,x129_1,B.len,Zx];rfl
   ·simp only[Xo,reduceIte,Nat.reduceEqDiff,and_self]
  obtain⟨c,A,D⟩:=this;refine⟨c,r,e,A,D,h1,h2,h3,h4,?_⟩;rw[List.drop_length]at h5;simpa[val]using h5
 |d+1,j,k+1,r,e,hj,hk,h1,h2,h3,h4,h5=>by
  have a0:i<a.length:=(Zg.1 F).1;have m:j<b.length:=by omega
  obtain⟨v,L⟩:∃v,b[j]? =some v:=⟨_,Zd m⟩;obtain⟨u,I⟩:∃u,r[i+j]? =some u:=⟨_,Zd (by omega)⟩;have M:=P.get L;have J:=h2.get I;have U:=RG X M J h3;have Z:x%18446744073709551616=x:=Zi (by omega);have Q:v%18446744073709551616=v:=Zi (by omega);have R:u%18446744073709551616=u:=Zi (by omega);have S:(x*v)%18446744073709551616=x*v:=Zi (by omega);have T:(x*v+u)%18446744073709551616=x*v+u:=Zi (by omega);have q:(x*v+u+e)%18446744073709551616=x*v+u+e:=Zi U;have f6:Xd .i64 (.ofNat (i+j))=.ofNat (i+j):=wrap_i64 (by omega);have f7:Xd .i64 (.ofNat (j+1))=.ofNat (j+1):=wrap_i64 (by omega);have f8:i+j<a.length+b.length:=by omega
  obtain⟨s,W⟩:∃s,s=x*v+u+e:=⟨_,rfl⟩;rw[<-W]at q;have C:s%4294967296%4294967296=s%4294967296:=Nat.mod_mod _ _;have g:s / 4294967296%18446744073709551616=s / 4294967296:=Zi (by omega);have N:TN .u64 (.ofNat s) (.ofNat 4294967296)=some (.p (La2 (s%4294967296))):=rfl;have O:U5 .u64 (.ofNat s) (.ofNat 4294967296)=some (.p (.int .u64 (Xd .u64 (.ofNat (s / 4294967296))))):=rfl;obtain⟨c,l,f,A,D⟩:=sa Y B P hl t F X V d (j+1) k (r.set (i+j) (s%4294967296)) (s / 4294967296) (by omega) (by omega) (by simpa using h1) (h2.set _ (by omega)) (by omega)
   (fun p G H=>by rw[ZY (by omega)];exact h4 p G H) (by
    have e1:=TZ (w:=s%4294967296) I;rw[OQ L]at h5;have e2:s%4294967296+4294967296*(s / 4294967296)=s:=Nat.mod_add_div _ _;rw[show i+(j+1)=(i+j)+1 by omega,ZI];clear U S T q Q R N O C g;generalize s%4294967296=y at *;generalize s / 4294967296=z at *;generalize 4294967296^(i+j)=p at *
    grind)
  refine⟨c,l,f,?_,D⟩;rw[W]at q N O C g A;rw[Xb];simp only[Xo,Xs,reduceIte,Nat.reduceEqDiff,Nat.reduceLeDiff,x129_1,B.len,m,Y.idx F,B.idx L,Z,Q,R,S,T,q,f6,f7,f8,C,g,N,O,X7 I,W3];exact A
theorem mX {E}{K}{s u}{a b}(j:UB s a)(z:UB u b)(B:WR a)(C:WR b)(F:a.length+b.length<10000000000000)(D:b.length<K)(t):
  ∀d i k r,i+d=a.length->d<k->r.length=a.length+b.length->WR r->(∀p,i+b.length<=p->p<a.length+b.length->r[p]? =some 0)->val r=val (a.take i)*val b->
  ∃c e,Xb E K 0 [0,1,5,6] x129_2 k ⟨[(0,La4 s),(1,La4 u),(5,.one (.own 0 0 0 (a.length+b.length))),(6,La1 i)],[⟨false,0,1,Wn r,false,t⟩]⟩=some (.exit 0,⟨c,[⟨false,0,1,Wn e,false,t⟩]⟩)/\
   Xi c 5=some (.one (.own 0 0 0 (a.length+b.length)))/\e.length=a.length+b.length/\WR e/\val e=val a*val b
 |_,_,0,_,_,h,_,_,_,_=>by omega
 |0,i,k+1,r,hi,_,h1,h2,h3,h4=>by
  obtain rfl:i=a.length:=by omega
  rw[Yg]at h4;have :∃c,Xb E K 0 [0,1,5,6] x129_2 (k+1) ⟨[(0,La4 s),(1,La4 u),(5,.one (.own 0 0 0 (a.length+b.length))),(6,La1 a.length)],[⟨false,0,1,Wn r,false,t⟩]⟩=some (.exit 0,⟨c,[⟨false,0,1,Wn r,false,t⟩]⟩)/\Xi c 5=some (.one (.own 0 0 0 (a.length+b.length))):=by
   apply VW
   ·rw[Xb];simp only[Xo,Xs,reduceIte,Nat.reduceEqDiff,x129_2,j.len,Zx];rfl
   ·simp only[Xo,reduceIte,Nat.reduceEqDiff]
  obtain⟨c,l,m⟩:=this;exact⟨c,r,l,m,h1,h2,h4⟩
 |d+1,i,k+1,r,hi,hk,h1,h2,h3,h4=>by
  have f:i<a.length:=by omega
  obtain⟨x,o⟩:∃x,a[i]? =some x:=⟨_,Zd f⟩;have q:=B.get o;obtain⟨V,U,A,M,⟨O,P,Q,R,S⟩,T,v,y,g,N⟩:=sa (E:=E) (K:=K) j z C F t o q (val r+x*4294967296^i*val b) b.length 0 K r 0 (by omega) D h1 h2 (by decide) h3 (by simp);have G:=g (i+b.length) (Zf _) (by omega);obtain⟨c,e,l,m⟩:=mX j z B C F D t d (i+1) k (U.set (i+b.length) (A%4294967296)) (by omega) (by omega) (by simpa using T) (v.set _ (by omega))
   (fun p L n=>by rw[ZY (by omega)];exact g p (by omega) n) (by
    have e1:=TZ (w:=A%4294967296) G;rw[Zi y]at e1⊢;rw[VQ o,ZX,<-h4];omega)
  refine⟨c,e,?_,m⟩;have H:Xd .i64 (.ofNat (i+1))=.ofNat (i+1):=wrap_i64 (by omega);have I:Xd .i64 (.ofNat (i+b.length))=.ofNat (i+b.length):=wrap_i64 (by omega);have J:i+b.length<a.length+b.length:=by omega
  rw[Xb];simp only[Xo,Xs,reduceIte,Nat.reduceEqDiff,Nat.reduceLeDiff,x129_2,j.len,z.len,f,H,I,J,M,O,P,Q,R,S,X7 G,W3];exact l
theorem dV {B}(c:Std B){i lb}{a b}(k:UB i a)(l:UB lb b)(f:WR a)(g:WR b)(u:a.length+b.length<10000000000000):
  Xv B 129 [.one i,.one lb] (.one (.Xl (UI (Xe (val a*val b))))):=by
 have d:=Vd f;have e:=Vd g;have h:=Ra c (ws:=dg (a.length+b.length) (val a*val b)) (by rw[Wh];omega);rw[SD (by rw[Ye];exact Nat.mul_lt_mul'' d e)]at h;refine Xv.of (c.Wa _ _ rfl) (((XT.ge (a.length+b.length+1)).and (h.Xk.and c.Xk)).mono fun E K ⟨x,e1,v⟩=> ?_);obtain⟨w,z,p,q,r,s,t⟩:=mX (E:=E) (K:=K) k l f g u (by omega) 177 a.length 0 K (List.replicate (a.length+b.length) 0) (by omega) (by omega) (by simp) (WR.replicate _)
  (fun j _ y=>by rw[YE,if_pos (by omega)]) (by rw[Uj];simp[val])
 obtain rfl:=Sd s r t;have m:Xd .i64 (.ofNat (a.length+b.length))=.ofNat (a.length+b.length):=wrap_i64 (by omega);have n:4*(a.length+b.length)<=lim:=by unfold lim;omega
 have o:a.length+b.length<=9223372036854775807:=by omega
 simp only[Xo,Xs,reduceIte,Nat.reduceEqDiff,Nat.reduceLeDiff,x129,k.len,l.len,m,n,o,Zf,Ty,p,q,Sp _ (Yv (Wh (a.length+b.length) (val a*val b))),VE,Wh,Uv,UK,v,X3,e1]
theorem Uc {B}(e:Std B){l}{a}(neg)(s:UB l a)(d:WR a)(j:a.length<10000000000000):∃c,Xv B 92 [.one (.bool neg),.one l] (.agg c)/\Tc c (if neg then -(val a:Int)else val a):=by
 obtain⟨r,g,b⟩:=Aw e s (by omega);rw[Te d rfl]at b;have i:(if neg then -(val a:Int)else val a).natAbs=val a:=by cases neg<;>simp
 refine⟨[.bool (decide ((if neg then -(val a:Int)else val a)<0)),r],Xv.of (e.Wa _ _ rfl) ((g.Xk.and e.Xk).mono fun E K ⟨e1,f⟩=> ?_),r,rfl,by rw[i];exact b⟩;cases neg with
 |false=>
  have :¬((val a:Int)<0):=by omega
  simp only[Xo,Xs,reduceIte,Nat.reduceEqDiff,Nat.reduceLeDiff,x92,f,X3,e1,this]
 |true=>
  have h:((-(val a:Int))<0)=(0<(Xe (val a)).length):=by
   have:=@Ui (val a);simp only[eq_iff_iff];omega
  simp only[Xo,Xs,reduceIte,Nat.reduceEqDiff,Nat.reduceLeDiff,x92,f,X3,e1,b.len,h]
theorem Qp {B}(a:Std B){m}(b:m<18446744073709551616):Xv B 93 [.one (La2 m)] (.one (.Xl (UI (Xe m)))):=by
 have e:Xv B 139 [.one (.Xl [[.int .u32 (.ofNat (m%4294967296))],[.int .u32 (.ofNat (m / 4294967296))]])] (.one (.Xl (UI (Xe m)))):=by
  have:=Ra a (ws:=[m%4294967296,m / 4294967296]) (by simp);rw[Te (n:=m) (WR.mk (by omega) (WR.mk (by omega) WR.nil)) (by simp only[val];omega)]at this;exact this
 refine Xv.of (a.Wa _ _ rfl) ((e.Xk.and a.Xk).mono fun E K ⟨e1,b⟩=> ?_);have f:TN .u64 (.ofNat m) (.ofNat 4294967296)=some (.p (La2 (m%4294967296))):=rfl;have g:U5 .u64 (.ofNat m) (.ofNat 4294967296)=some (.p (.int .u64 (Xd .u64 (.ofNat (m / 4294967296))))):=rfl;have c:m%4294967296%4294967296=m%4294967296:=Nat.mod_mod _ _;have d:m / 4294967296%18446744073709551616%4294967296=m / 4294967296:=by omega
 simp only[Xo,Xs,reduceIte,Nat.reduceEqDiff,Nat.reduceLeDiff,Nat.reduceLT,Nat.reduceAdd,x93,f,g,c,d,b,X3,e1]
theorem OP {m}(h:m<18446744073709551616):(Xe m).length<=2:=VF (by simpa using h)
theorem pD {B}(a:Std B){m}(i:m<9223372036854775808):∃c,Xv B 49 [.one (La0 m)] (.agg c)/\Tc c m:=by
 have g:=Qp a (m:=m) (by omega);have e:=OP (m:=m) (by omega);obtain⟨c,h,b⟩:=Uc a false (l:=.Xl (UI (Xe m))) .Xl (Xr m) (by omega);rw[Xn]at b;refine⟨c,Xv.of (a.Wa _ _ rfl) ((g.Xk.and (h.Xk.and a.Xk)).mono fun E K ⟨e1,e2,d⟩=> ?_),by simpa using b⟩;obtain⟨l,rfl,-⟩:=b;have f:m%18446744073709551616=m:=Zi (by omega);simp only[Xo,Xs,reduceIte,Nat.reduceEqDiff,Nat.reduceLeDiff,Nat.reduceAdd,x49,f,Nat.not_lt_zero,d,X3,e1,e2]
theorem GJ {B}(a:Std B){m}(o:m<9223372036854775808):∃c,Xv B 49 [.one (.int .i64 (.negSucc m))] (.agg c)/\Tc c (.negSucc m):=by
 have j:=Qp a (m:=m+1) (by omega);have f:=OP (m:=m+1) (by omega);obtain⟨c,k,b⟩:=Uc a true (l:=.Xl (UI (Xe (m+1)))) .Xl (Xr _) (by omega);rw[Xn]at b;refine⟨c,Xv.of (a.Wa _ _ rfl) ((j.Xk.and (k.Xk.and a.Xk)).mono fun E K ⟨e1,e2,d⟩=> ?_),by simpa[Int.negSucc_eq]using b⟩;obtain⟨l,rfl,-⟩:=b;have g:m%18446744073709551616=m:=Zi (by omega);have h:(m+1)%18446744073709551616=m+1:=Zi (by omega);have i:Xd .i64 (0-Xd .i64 (Int.negSucc m+Int.ofNat 1))=.ofNat m:=by
  cases m with
  |zero=>rfl
  |succ m=>
   have e:(Int.negSucc (m+1)+Int.ofNat 1)=Int.negSucc m:=by simp only[Int.negSucc_eq,Yx];omega
   rw[e];have e2:Xd .i64 (Int.negSucc m)=Int.negSucc m:=by
    have h0:m%18446744073709551616=m:=Zi (by omega);have n:Nat.ble 9223372036854775808 (18446744073709551615-m)=true:=PU (by omega);show U6 .i64 (18446744073709551615-m%18446744073709551616)=_;rw[h0];show(bif true&&Nat.ble 9223372036854775808 (18446744073709551615-m)then _ else _)=_;rw[n];show Int.negSucc (18446744073709551616-(18446744073709551615-m)-1)=_;congr 1;omega
   rw[e2,show(0-Int.negSucc m:Int)=Int.ofNat (m+1)by simp only[Int.negSucc_eq,Yx];omega];exact wrap_i64 o
 simp only[Xo,Xs,reduceIte,Nat.reduceEqDiff,Nat.reduceLeDiff,Nat.reduceAdd,x49,i,g,h,d,X3,e1,e2]
theorem NX {B}(k:Std B){c}{z}(l:Tc c z):Xv B 77 [.agg c] (.one (.int .i64 (mi z))):=by
 obtain⟨m,rfl,i⟩:=l;refine Xv.of (k.Wa _ _ rfl) (XT.of fun K n=> ?_);unfold mi;by_cases f:z<0
 ·have h0:z≠0:=by omega
  simp only[Xo,Xs,reduceIte,Nat.reduceEqDiff,Nat.reduceLeDiff,Nat.reduceAdd,x77,h0,f]
 ·have d:∀n:Nat,Qt (fun a b=>S6 b a) [La1 n,La1 1]=some ⟨La1 (if n=0 then 0 else 1),[],[],[]⟩:=by
   intro n;simp only[Qt,maxD,gG,Eu,Yw,cond_true,bk,Vk.pure];by_cases h:1<n
   ·simp only[h,decide_true,cond_true];rw[if_neg (by omega)]
   ·simp only[h,decide_false,cond_false];rcases Yk n with e|e
    ·rw[if_pos e,e]
    ·rw[if_neg (by omega),show n=1 by omega]
  have g:((Xe z.natAbs).length=0)=(z=0):=by rw[eq_iff_iff,Ui];omega
  by_cases h0:z=0
  ·rw[if_pos h0];have j:(Xe z.natAbs).length=0:=by rw[g];exact h0
   simp only[Xo,Xs,reduceIte,Nat.reduceEqDiff,Nat.reduceLeDiff,Nat.reduceAdd,x77,i.len,d,j,f]
  ·simp only[Xo,Xs,reduceIte,Nat.reduceEqDiff,Nat.reduceLeDiff,Nat.reduceAdd,x77,i.len,d,g,h0,f]
theorem Dh {B}(d:Std B){c}{z}(g:Tc c z)(j:Sm z):∃a,Xv B 124 [.agg c] (.agg a)/\Tc a (-z):=by
 obtain⟨m,rfl,i⟩:=g;unfold Sm at j;obtain⟨a,f,b⟩:=Uc d (!decide (z<0)) i (Xr _) (by omega);rw[Xn]at b;refine⟨a,Xv.of (d.Wa _ _ rfl) ((f.Xk.and d.Xk).mono fun E K ⟨e2,e⟩=> ?_),?_⟩
 ·obtain⟨l,rfl,-⟩:=b;simp+decide only[Xo,Xs,reduceIte,Nat.reduceAdd,x124,e,X3,e2]
 ·have : -z=(if(!decide (z<0))=true then -(z.natAbs:Int)else z.natAbs):=by
   by_cases h:z<0
   ·simp[h];omega
   ·simp[h];omega
  rw[this];exact b
theorem RH (m n):S6 (gH m n) (.ofNat 0)=decide (m<n):=by
 unfold gH;by_cases h:m<n
 ·rw[if_pos h,decide_eq_true h];rfl
 ·rw[if_neg h,decide_eq_false h];split<;>rfl
theorem Qq {B}(b:Std B){c d}{x y}(o:Tc c x)(p:Tc d y)(t:Sm x)(u:Sm y):∃e,Xv B 76 [.agg c,.agg d] (.agg e)/\Tc e (x*y):=by
 obtain⟨m,rfl,q⟩:=o;obtain⟨n,rfl,r⟩:=p;unfold Sm at t u;have i:=dV b q r (Xr _) (Xr _) (by omega);rw[Xn,Xn]at i;have a:(Xe (x.natAbs*y.natAbs)).length<10000000000000:=by
  have:=U0 x.natAbs y.natAbs;omega
 obtain⟨e,j,f⟩:=Uc b (decide (x<0)!=decide (y<0)) (l:=.Xl (UI (Xe (x.natAbs*y.natAbs)))) .Xl (Xr _) a;rw[Xn]at f;refine⟨e,Xv.of (b.Wa _ _ rfl) ((i.Xk.and (j.Xk.and b.Xk)).mono fun E K ⟨e1,e2,g⟩=> ?_),?_⟩
 ·obtain⟨l,rfl,-⟩:=f;have s:((decide (x<0)==decide (y<0))!=true)=(decide (x<0)!=decide (y<0)):=by
   cases decide (x<0)<;>cases decide (y<0)<;>rfl
  simp+decide only[Xo,Xs,reduceIte,Nat.reduceAdd,x76,g,X3,e1,e2,s]
 ·have :x*y=(if(decide (x<0)!=decide (y<0))=true then -((x.natAbs*y.natAbs:Nat):Int)else((x.natAbs*y.natAbs:Nat):Int)):=by
   rw[Int.natCast_mul];by_cases h:x<0<;>by_cases k:y<0
   ·simp only[h,k,decide_true,bne_self_eq_false,ZC,if_false];rw[show(x.natAbs:Int)= -x by omega,show(y.natAbs:Int)= -y by omega];grind
   ·simp only[h,k,decide_true,decide_false,bne_iff_ne,ne_eq,Bool.true_eq_false,not_false_eq_true,if_true];rw[show(x.natAbs:Int)= -x by omega,show(y.natAbs:Int)=y by omega];grind
   ·simp only[h,k,decide_true,decide_false,bne_iff_ne,ne_eq,ZC,not_false_eq_true,if_true];rw[show(x.natAbs:Int)=x by omega,show(y.natAbs:Int)= -y by omega];grind
   ·simp only[h,k,decide_false,bne_self_eq_false,ZC,if_false];rw[show(x.natAbs:Int)=x by omega,show(y.natAbs:Int)=y by omega]
  rw[this];exact f
theorem Dy {B}(b:Std B){c d}{x y}(w:Tc c x)(z:Tc d y)(A:Sm x)(C:Sm y):∃e,Xv B 75 [.agg c,.agg d] (.agg e)/\Tc e (x+y):=by
 obtain⟨m,rfl,s⟩:=w;obtain⟨n,rfl,t⟩:=z;unfold Sm at A C;by_cases q:decide (x<0)=decide (y<0)
 ·have i:=oO b s t (Xr _) (Xr _) (by omega) (by omega);rw[Xn,Xn]at i;have a:(Xe (x.natAbs+y.natAbs)).length<10000000000000:=by
   have:=U1 x.natAbs y.natAbs;omega
  obtain⟨e,o,f⟩:=Uc b (decide (x<0)) (l:=.Xl (UI (Xe (x.natAbs+y.natAbs)))) .Xl (Xr _) a;rw[Xn]at f;refine⟨e,Xv.of (b.Wa _ _ rfl) ((i.Xk.and (o.Xk.and b.Xk)).mono fun E K ⟨e1,e2,g⟩=> ?_),?_⟩
  ·obtain⟨l,rfl,-⟩:=f;rw[<-q];have u:(decide (x<0)==decide (x<0))=true:=beq_self_eq_true _;simp+decide only[Xo,Xs,reduceIte,Nat.reduceAdd,x75,g,X3,e1,e2,u]
  ·have :x+y=(if decide (x<0)=true then -((x.natAbs+y.natAbs:Nat):Int)else((x.natAbs+y.natAbs:Nat):Int)):=by
    by_cases h:x<0
    ·have k:y<0:=by simpa[h]using q
     simp only[h,decide_true,if_true];omega
    ·have k:¬y<0:=by simpa[h]using q
     simp only[h,decide_false,ZC,if_false];omega
   rw[this];exact f
 ·have u:(decide (x<0)==decide (y<0))=false:=by simpa using q
  have h0:=OA b s t (Xr _) (Xr _) (WO _) (WO _) (by omega) (by omega);rw[Xn,Xn]at h0;have r:(x<0/\¬y<0)\/(¬x<0/\y<0):=by
   by_cases h:x<0<;>by_cases k:y<0<;>simp[h,k]at q⊢
  by_cases p:y.natAbs<=x.natAbs
  ·have j:¬x.natAbs<y.natAbs:=by omega
   have i:=dW b s t (Xr _) (Xr _) (XR p) (by omega) (by rw[Xn,Xn];exact p);rw[Xn,Xn]at i;have a:(Xe (x.natAbs-y.natAbs)).length<10000000000000:=by
    have:=XR (Nat.sub_le x.natAbs y.natAbs);omega
   obtain⟨e,o,f⟩:=Uc b (decide (x<0)) (l:=.Xl (UI (Xe (x.natAbs-y.natAbs)))) .Xl (Xr _) a;rw[Xn]at f;refine⟨e,Xv.of (b.Wa _ _ rfl) ((h0.Xk.and (i.Xk.and (o.Xk.and b.Xk))).mono fun E K ⟨v,e1,e2,g⟩=> ?_),?_⟩
   ·obtain⟨l,rfl,-⟩:=f;simp+decide only[Xo,Xs,reduceIte,Nat.reduceAdd,x75,g,X3,v,e1,e2,u,RH,j]
   ·have :x+y=(if decide (x<0)=true then -((x.natAbs-y.natAbs:Nat):Int)else((x.natAbs-y.natAbs:Nat):Int)):=by
     rcases r with⟨h,k⟩|⟨h,k⟩
     ·simp only[h,decide_true,if_true];omega
     ·simp only[h,decide_false,ZC,if_false];omega
    rw[this];exact f
  ·have j:x.natAbs<y.natAbs:=by omega
   have i:=dW b t s (Xr _) (Xr _) (XR (by omega)) (by omega) (by rw[Xn,Xn];omega);rw[Xn,Xn]at i;have a:(Xe (y.natAbs-x.natAbs)).length<10000000000000:=by
    have:=XR (Nat.sub_le y.natAbs x.natAbs);omega
   obtain⟨e,o,f⟩:=Uc b (decide (y<0)) (l:=.Xl (UI (Xe (y.natAbs-x.natAbs)))) .Xl (Xr _) a;rw[Xn]at f;refine⟨e,Xv.of (b.Wa _ _ rfl) ((h0.Xk.and (i.Xk.and (o.Xk.and b.Xk))).mono fun E K ⟨v,e1,e2,g⟩=> ?_),?_⟩
   ·obtain⟨l,rfl,-⟩:=f;simp+decide only[Xo,Xs,reduceIte,Nat.reduceAdd,x75,g,X3,v,e1,e2,u,RH,j]
   ·have :x+y=(if decide (y<0)=true then -((y.natAbs-x.natAbs:Nat):Int)else((y.natAbs-x.natAbs:Nat):Int)):=by
     rcases r with⟨h,k⟩|⟨h,k⟩
     ·simp only[k,decide_false,ZC,if_false];omega
     ·simp only[k,decide_true,if_true];omega
    rw[this];exact f
theorem fO {B:Xq}(b:Std B){l:PL}{a:P'}(s:UB l a)(d:WR a)(h:a.length<=2):Xv B 184 [.one l] (.one (La2 (val a))):=by
 have h0:=Qe b s d 0;have g:=Qe b s d 1;have k:=cR d 0;have m:=cR d 1;have j:val a=a[1]?.getD 0*4294967296+a[0]?.getD 0:=by
  match a,h with
  |[],_=>rfl
  |[w],_=>simp[val]
  |[w,v],_=>simp[val];omega
 refine Xv.of (b.Wa _ _ rfl) ((h0.Xk.and (g.Xk.and b.Xk)).mono fun E K ⟨c,e1,i⟩=> ?_);rw[j];generalize a[1]?.getD 0=x at *;generalize a[0]?.getD 0=y at *;have e:x*4294967296%18446744073709551616=x*4294967296:=Zi (by omega);have f:(x*4294967296+y)%18446744073709551616=x*4294967296+y:=Zi (by omega);simp only[Xo,Xs,reduceIte,Nat.reduceEqDiff,Nat.reduceLeDiff,x184,i,X3,c,e1,e,f]
theorem pG {E}{K}:∀b a k H,b<k->a<18446744073709551616->b<18446744073709551616->
  ∃c,Xb E K 0 [0,1] x183_1 k ⟨[(0,La3 a),(1,La3 b)],H⟩=some (.exit 0,⟨c,H⟩)/\Xi c 0=some (La3 (Nat.gcd a b)):=by
 intro b;induction b using Nat.strongRecOn with
 |ind b h=>
  intro a k H m j l;rcases k with _|k;omega;cases b with
  |zero=>
   apply VW
   ·rw[Xb];simp only[Xo,Xs,reduceIte,Nat.reduceEqDiff,x183_1,Zx];rfl
   ·simp only[Xo,reduceIte,Nat.reduceEqDiff,Nat.gcd_zero_right]
  |succ b=>
   have d:a%(b+1)<b+1:=ZN _ (by omega);obtain⟨c,f,g⟩:=h (a%(b+1)) d (b+1) k H (by omega) (by omega) (by omega);have e:Nat.gcd a (b+1)=Nat.gcd (b+1) (a%(b+1)):=by
    rw[Nat.gcd_comm,Nat.gcd_rec];exact Nat.gcd_comm _ _
   refine⟨c,?_,by rw[g,e]⟩;rw[Xb];simp only[Xo,Xs,reduceIte,Nat.reduceEqDiff,x183_1,Yu];exact f
theorem sP {B}(e:Std B){a b}(f:a<18446744073709551616)(g:b<18446744073709551616):Xv B 183 [.one (La2 a),.one (La2 b)] (.one (La2 (Nat.gcd a b))):=by
 refine Xv.of (e.Wa _ _ rfl) ((XT.ge (b+1)).mono fun E K i=> ?_);obtain⟨h,c,d⟩:=pG (E:=E) (K:=K) b a K [] (by omega) f g;simp only[Xo,Xs,reduceIte,Nat.reduceEqDiff,Nat.reduceLeDiff,x183,c,d]
theorem drop_set {a:P'}{n w:Nat}(h:n<a.length):(a.set n w).drop n=w::a.drop (n+1):=by
 rw[Z0 (by simpa using h),List.getElem_set_self,List.drop_set_of_lt (by omega)]
theorem fM {E:Xa}{K:Nat}{v:PL}{a:P'}(B:UB v a)(z:WR a)(H:a.length<10000000000000)(t:Nat){d:Nat}(A:0<d)(l:d<4294967296):
  ∀(n k:Nat) (q:P') (r:Nat),n<k->n<=a.length->q.length=a.length->WR q->r<d->val (a.drop n)=d*val (q.drop n)+r->
  ∃b c g,Xb E K 0 [0,1,6,7,8] x194_1 k ⟨[(0,La4 v),(1,La3 d),(6,.one (.own 0 0 0 a.length)),(7,La3 r),(8,La4 (.int .i64 (pI n)))],[⟨false,0,1,Wn q,false,t⟩]⟩=some (.exit 0,⟨b,[⟨false,0,1,Wn c,false,t⟩]⟩)/\
   (Xi b 6=some (.one (.own 0 0 0 a.length))/\Xi b 7=some (La3 g))/\c.length=a.length/\WR c/\g<d/\val a=d*val c+g
 |_,0,_,_,h,_,_,_,_,_=>by omega
 |0,k+1,q,r,_,_,h1,h2,h3,h4=>by
  have :∃b,Xb E K 0 [0,1,6,7,8] x194_1 (k+1) ⟨[(0,La4 v),(1,La3 d),(6,.one (.own 0 0 0 a.length)),(7,La3 r),(8,La4 (.int .i64 (pI 0)))],[⟨false,0,1,Wn q,false,t⟩]⟩=some (.exit 0,⟨b,[⟨false,0,1,Wn q,false,t⟩]⟩)/\
    (Xi b 6=some (.one (.own 0 0 0 a.length))/\Xi b 7=some (La3 r)):=by
   apply VW
   ·rw[Xb];simp only[Xo,Xs,reduceIte,Nat.reduceEqDiff,x194_1,pI];rfl
   ·simp only[Xo,reduceIte,Nat.reduceEqDiff,and_self]
  obtain⟨b,i,j⟩:=this;exact⟨b,q,r,i,j,h1,h2,h3,by simpa using h4⟩
 |n+1,k+1,q,r,hk,hn,h1,h2,h3,h4=>by
  obtain⟨w,o⟩:∃w,a[n]? =some w:=⟨_,Zd (by omega)⟩;obtain⟨u,L⟩:∃u,q[n]? =some u:=⟨_,Zd (by omega)⟩;have M:=z.get o;obtain⟨s,J⟩:∃s,s=r*4294967296+w:=⟨_,rfl⟩;have f:s / d<4294967296:=Yc (by
   have:=Zm 4294967296 (show r+1<=d from h3);rw[ZX]at this;omega)
  have C:w%18446744073709551616=w:=Zi (by omega);have D:r*4294967296%18446744073709551616=r*4294967296:=Zi (by omega);have F:(r*4294967296+w)%18446744073709551616=s:=by rw[<-J];exact Zi (by omega)
  have G:Xd .u32 (Xd .u64 (.ofNat (s / d)))=.ofNat (s / d):=by
   rw[wrap_u64,Zi (show s / d<18446744073709551616 by omega),wrap_u32,Zi f]
  have N:TN .u64 (.ofNat s) (.ofNat d)=some (.p (La2 (s%d))):=by
   obtain⟨e,rfl⟩:∃e,d=e+1:=⟨d-1,by omega⟩;rfl
  have O:U5 .u64 (.ofNat s) (.ofNat d)=some (.p (.int .u64 (Xd .u64 (.ofNat (s / d))))):=by
   obtain⟨e,rfl⟩:∃e,d=e+1:=⟨d-1,by omega⟩;rfl
  have I:=UR (n:=n) (by omega);have m:n<a.length:=by omega
  obtain⟨b,c,g,i,j⟩:=fM B z H t A l n k (q.set n (s / d)) (s%d) (by omega) (by omega) (by simpa using h1) (h2.set n f) (ZN _ A) (by
   rw[drop_set (by omega),OQ o,h4];simp only[val];have:=Yo s d;generalize s / d=x at *;generalize s%d=y at *
   grind)
  refine⟨b,c,g,?_,j⟩;rw[Xb];simp only[Xo,Xs,reduceIte,Nat.reduceEqDiff,Nat.reduceLeDiff,x194_1,pI,Zw,B.idx o,C,D,F,N,O,m,X7 L,I];simp only[<-wrap_u64,<-wrap_u32,G,W3];exact i
theorem jj {B}(c:Std B){la}{a}(o:UB la a)(j:WR a)(w:a.length<10000000000000){d}(e:0<d)(f:d<4294967296):
  Xv B 194 [.one la,.one (La2 d)] (.Wd [.one (.Xl (UI (Xe (val a / d)))),.one (La2 (val a%d))]):=by
 have i:=Vd j;have y:val a / d<4294967296^a.length:=Z2 (Nat.div_le_self _ _) i;have m:=Ra c (ws:=dg a.length (val a / d)) (by rw[Wh];omega);rw[SD y]at m;refine Xv.of (c.Wa _ _ rfl) (((XT.ge (a.length+1)).and (m.Xk.and c.Xk)).mono fun E K ⟨D,e1,x⟩=> ?_);obtain⟨C,z,A,s,⟨t,b⟩,u,v,k,l⟩:=fM (E:=E) (K:=K) o j w 177 e f a.length K (List.replicate a.length 0) 0 (by omega) (Zf _) (by simp) (WR.replicate _) e (by simp[val]);have g:val z=val a / d:=by
  rw[l,Nat.mul_add_div e,YI k];omega
 have h:A=val a%d:=by
  rw[l,Nat.mul_add_mod,Zi k]
 obtain rfl:=Sd v u g;subst h;have p:=UR (n:=a.length) (by omega);have q:4*a.length<=lim:=by unfold lim;omega
 have r:a.length<=9223372036854775807:=by omega
 simp only[Xo,Xs,reduceIte,Nat.reduceEqDiff,Nat.reduceLeDiff,x194,o.len,p,q,r,Zf,Ty,s,t,b,Sp _ (Yv (Wh a.length (val a / d))),VE,Wh,Uv,UK,x,X3,e1]
def IB (x:Int):Prop:=x.natAbs<4294967296
theorem wh {B}(a:Std B){x}(b:IB x):∃c,Xv B 18 [.one (.int .i64 x)] (.agg c)/\IsZ c x:=by
 unfold IB at b;obtain⟨c,i,e⟩:∃c,Xv B 49 [.one (.int .i64 x)] (.agg c)/\Tc c x:=by
  cases x with
  |ofNat m=>exact pD a (by simp at b;omega)
  |negSucc m=>exact GJ a (by simp at b;omega)
 obtain⟨d,j,f⟩:=pD a (m:=1) (by decide);obtain⟨l,n,g⟩:=e.len;obtain⟨o,p,h⟩:=f.len;subst g h;refine⟨_,Xv.of (a.Wa _ _ rfl) ((i.Xk.and (j.Xk.and a.Xk)).mono fun E K ⟨e1,e2,k⟩=> ?_),⟨_,_,_,_,rfl,e,f⟩⟩;simp+decide only[Xo,Xs,reduceIte,Nat.reduceAdd,x18,k,X3,e1,e2]
