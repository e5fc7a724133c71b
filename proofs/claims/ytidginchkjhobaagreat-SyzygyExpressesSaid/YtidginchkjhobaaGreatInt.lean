/- Package integer: words. -/
import Derived.Test.YtidginchkjhobaaGreatEvDrawn
namespace Go.Ev
open Go.Proofs.YtidginchkjhobaaGreat
theorem dT {E}{K}{l}{a}(s:UB l a)(g:a.length<9223372036854775808):∀n k H,n<k->n<=a.length->
  ∃b,Xb E K 0 [0,3] x175_1 k ⟨[(0,La4 l),(3,La1 n)],H⟩=some (.exit 0,⟨b,H⟩)/\Xi b 0=some (La4 l)/\Xi b 3=some (La1 (VC (a.take n)).length)
 |_,0,_,h,_=>by omega
 |0,k+1,H,_,_=>by
  apply VW
  ·rw[Xb];simp only[Xo,Xs,reduceIte,Nat.reduceEqDiff,x175_1,Zx];rfl
  ·simp only[Xo,reduceIte,Nat.reduceEqDiff,VC,and_self]
 |n+1,k+1,H,hk,hn=>by
  obtain⟨w,c⟩:∃w,a[n]? =some w:=⟨_,Zd (by omega)⟩;have d:Xd .i64 (Int.ofNat (n+1)-Int.ofNat 1)=Int.ofNat n:=X9 (by omega) (by omega);rw[mZ c,dR];by_cases h0:w=0
  ·subst h0;obtain⟨b,e,f⟩:=dT s g n k H (by omega) (by omega);refine⟨b,?_,f⟩;rw[Xb];simp only[Xo,Xs,reduceIte,Nat.reduceEqDiff,x175_1,Yu,d,s.idx c];exact e
  ·apply VW
   ·rw[Xb];simp only[Xo,Xs,reduceIte,Nat.reduceEqDiff,x175_1,Yu,d,s.idx c,h0];rfl
   ·simp only[Xo,reduceIte,Nat.reduceEqDiff,h0,Zn,Z4,Nat.min_eq_left (show n<=a.length by omega),and_self]
theorem Rz {B}(g:Std B){ws}(i:ws.length<9223372036854775808):Xv B 175 [.one (.Xl (UI ws))] (.one (.Xl (UI (VC ws)))):=by
 have s:UB (.Xl (UI ws)) ws:=.Xl;refine Xv.of (g.Wa _ _ rfl) ((XT.ge (ws.length+1)).mono fun E K k=> ?_);obtain⟨j,d,e,b⟩:=dT (E:=E) (K:=K) s i ws.length K [] (by omega) (Zf _);rw[Yg]at b;have a:∀h,WN 1 h (.p (.Xl (UI ws))) 0 (some (VC ws).length)=some (.p (.Xl (UI (VC ws))),[]):=by
  intro h;obtain⟨r,a,c⟩:=s.upto (n:=(VC ws).length) (bM ws);have:=a h;rw[<-gN]at c;rcases c with rfl|⟨-,rfl⟩
  ·exact this
  ·simp only[WN]at this;obtain⟨-,f⟩:=X4 this;simp at f
 simp only[Xo,Xs,reduceIte,Nat.reduceEqDiff,Nat.reduceLeDiff,x175,s.len,d,e,b,a]
theorem rX {B}(g:Std B){l}{a}(s:UB l a)(h:a.length<9223372036854775808):∃r,Xv B 175 [.one l] (.one r)/\UB r (VC a):=by
 obtain⟨r,f,c⟩:=s.upto (n:=(VC a).length) (bM a);rw[<-gN]at c;refine⟨r,Xv.of (g.Wa _ _ rfl) ((XT.ge (a.length+1)).mono fun E K j=> ?_),c⟩;obtain⟨i,d,e,b⟩:=dT (E:=E) (K:=K) s h a.length K [] (by omega) (Zf _);rw[Yg]at b;simp only[Xo,Xs,reduceIte,Nat.reduceEqDiff,Nat.reduceLeDiff,x175,s.len,d,e,b,f]
theorem iN {E}{K}{z I}{a b}(C:UB z a)(A:UB I b)(D:WR a)(F:WR b)(l:b.length<=a.length)(O:a.length<10000000000000)(t):
  ∀d i k r c,i+d=a.length->d<k->r.length=a.length+1->WR r->c<2->(∀j,i<=j->j<=a.length->r[j]? =some 0)->val r+c*4294967296^i=val (a.take i)+val (b.take i)->
  ∃e g f,Xb E K 0 [0,1,5,6,21,22] x179_1 k ⟨[(0,La4 z),(1,La4 I),(5,.one (.own 0 0 0 (a.length+1))),(6,La3 c),(21,La1 a.length),(22,La1 i)],[⟨false,0,1,Wn r,false,t⟩]⟩=some (.exit 0,⟨e,[⟨false,0,1,Wn g,false,t⟩]⟩)/\
   Xi e 0=some (La4 z)/\Xi e 5=some (.one (.own 0 0 0 (a.length+1)))/\Xi e 6=some (La3 f)/\g.length=a.length+1/\WR g/\f<2/\g[a.length]? =some 0/\val g+f*4294967296^a.length=val a+val b
 |_,_,0,_,_,_,h,_,_,_,_,_=>by omega
 |0,i,k+1,r,c,hi,_,h1,h2,h3,h4,h5=>by
  obtain rfl:i=a.length:=by omega
  rw[Yg,Ze l]at h5;have :∃e,Xb E K 0 [0,1,5,6,21,22] x179_1 (k+1) ⟨[(0,La4 z),(1,La4 I),(5,.one (.own 0 0 0 (a.length+1))),(6,La3 c),(21,La1 a.length),(22,La1 a.length)],[⟨false,0,1,Wn r,false,t⟩]⟩=some (.exit 0,⟨e,[⟨false,0,1,Wn r,false,t⟩]⟩)/\
    Xi e 0=some (La4 z)/\Xi e 5=some (.one (.own 0 0 0 (a.length+1)))/\Xi e 6=some (La3 c):=by
   apply VW
   ·rw[Xb];simp only[Xo,Xs,reduceIte,Nat.reduceEqDiff,x179_1,Zx];rfl
   ·simp only[Xo,reduceIte,Nat.reduceEqDiff,and_self]
  obtain⟨e,o,q,R,S⟩:=this;exact⟨e,r,c,o,q,R,S,h1,h2,h3,h4 _ (Zf _) (Zf _),h5⟩
 |d+1,i,k+1,r,c,hi,hk,h1,h2,h3,h4,h5=>by
  obtain⟨w,u⟩:∃w,a[i]? =some w:=⟨_,Zd (by omega)⟩;have s:i<a.length:=by omega
  have U:=D.get u;have B:=h4 i (Zf _) (by omega);have J:w%18446744073709551616=w:=Zi (by omega);have L:(w+c)%18446744073709551616=w+c:=Zi (by omega);have M:Xd .i64 (.ofNat (i+1))=.ofNat (i+1):=wrap_i64 (by omega);have N:i<a.length+1:=by omega
  by_cases m:i<b.length
  ·obtain⟨v,H⟩:∃v,b[i]? =some v:=⟨_,Zd m⟩;have T:=F.get H;have P:v%18446744073709551616=v:=Zi (by omega);have Q:(w+c+v)%18446744073709551616=w+c+v:=Zi (by omega);obtain⟨e,g,f,o,q⟩:=iN C A D F l O t d (i+1) k (r.set i ((w+c+v)%4294967296)) ((w+c+v) / 4294967296) (by omega) (by omega) (by simpa using h1) (h2.set i (by omega)) (by omega)
    (fun j G n=>by rw[ZY (by omega)];exact h4 j (by omega) n) (by
     have e1:=TZ (w:=(w+c+v)%4294967296) B;rw[VQ u,VQ H];have e2:(w+c+v)%4294967296+4294967296*((w+c+v) / 4294967296)=w+c+v:=Nat.mod_add_div _ _;rw[ZI];generalize (w+c+v)%4294967296=x at *;generalize (w+c+v) / 4294967296=y at *;generalize 4294967296^i=p at *
     grind)
   refine⟨e,g,f,?_,q⟩;rw[Xb];simp only[Xo,Xs,reduceIte,Nat.reduceEqDiff,Nat.reduceLeDiff,x179_1,s,C.idx u,A.len,m,A.idx H,J,L,M,N,P,Q,X7 B,W3];exact o
  ·obtain⟨e,g,f,o,q⟩:=iN C A D F l O t d (i+1) k (r.set i ((w+c)%4294967296)) ((w+c) / 4294967296) (by omega) (by omega) (by simpa using h1) (h2.set i (by omega)) (by omega)
    (fun j G n=>by rw[ZY (by omega)];exact h4 j (by omega) n) (by
     have e1:=TZ (w:=(w+c)%4294967296) B;rw[VQ u,Ze (show b.length<=i+1 by omega)];rw[Ze (show b.length<=i by omega)]at h5;have e2:(w+c)%4294967296+4294967296*((w+c) / 4294967296)=w+c:=Nat.mod_add_div _ _;rw[ZI];generalize (w+c)%4294967296=x at *;generalize (w+c) / 4294967296=y at *;generalize 4294967296^i=p at *
     grind)
   refine⟨e,g,f,?_,q⟩;rw[Xb];simp only[Xo,Xs,reduceIte,Nat.reduceEqDiff,Nat.reduceLeDiff,x179_1,s,C.idx u,A.len,m,J,L,M,N,X7 B,W3];exact o
theorem Sp (a){n}(h:a.length<=n):(Wn a).take n=Wn a:=Ze (by rw[VE];exact h)
theorem yg {E}{K}{g i}{a b}(x:UB g a)(y:UB i b)(k:WR a)(l:WR b)(f:b.length<=a.length)(v:a.length<10000000000000)(t)(u:a.length<K):
  ∃d c e,Xb E K 0 [0,1,5,6,21,22] x179_1 K ⟨[(0,La4 g),(1,La4 i),(5,.one (.own 0 0 0 (a.length+1))),(6,La3 0),(21,La1 a.length),(22,La1 0)],[⟨false,0,1,Wn (List.replicate (a.length+1) 0),false,t⟩]⟩=some (.exit 0,⟨d,[⟨false,0,1,Wn e,false,t⟩]⟩)/\
   Xi d 0=some (La4 g)/\Xi d 5=some (.one (.own 0 0 0 (a.length+1)))/\Xi d 6=some (La3 c)/\e[a.length]? =some 0/\e.set a.length (c%4294967296)=dg (a.length+1) (val a+val b):=by
 obtain⟨d,e,c,m,n,o,q,r,s,z,h,A⟩:=iN (E:=E) (K:=K) x y k l f v t a.length 0 K (List.replicate (a.length+1) 0) 0 (by omega) u (by simp) (WR.replicate _) (by decide)
  (fun j _ B=>by rw[YE,if_pos (by omega)]) (by rw[Uj];simp[val])
 refine⟨d,c,e,m,n,o,q,h,Sd (s.set _ (by omega)) (by simpa using r) ?_⟩;have:=TZ (w:=c%4294967296) h;rw[Zi (show c<4294967296 by omega)]at this⊢;omega
theorem yf {B}(g:Std B){w lb}{a b}(i:UB w a)(j:UB lb b)(d:WR a)(e:WR b)(z:a.length<10000000000000)(A:b.length<10000000000000):
  Xv B 179 [.one w,.one lb] (.one (.Xl (UI (Xe (val a+val b))))):=by
 have v:∀{a b:P'},WR a->WR b->b.length<=a.length->val a+val b<4294967296^(a.length+1):=by
  intro a b d e c;have f:=Vd d;have D:=ZO (Vd e) (VP c);rw[ZI];omega
 by_cases c:a.length<b.length
 ·have f:=Rz g (ws:=dg (b.length+1) (val b+val a)) (by rw[Wh];omega);rw[SD (v e d (by omega)),Nat.add_comm (val b)]at f;refine Xv.of (g.Wa _ _ rfl) (((XT.ge (b.length+1)).and (f.Xk.and g.Xk)).mono fun E K ⟨y,e1,u⟩=> ?_);obtain⟨x,k,C,p,q,r,s,t,h⟩:=yg (E:=E) (K:=K) j i e d (by omega) A 177 (by omega);rw[Nat.add_comm (val b)]at h;have l:Xd .i64 (.ofNat (b.length+1))=.ofNat (b.length+1):=wrap_i64 (by omega);have m:4*(b.length+1)<=lim:=by unfold lim;omega
  have n:b.length+1<=9223372036854775807:=by omega
  have o:b.length<b.length+1:=by omega
  simp only[Xo,Xs,reduceIte,Nat.reduceEqDiff,Nat.reduceLeDiff,x179,i.len,j.len,c,l,m,n,o,Zf,Ty,p,q,r,s,X7 t,W3,h,Sp _ (Yv (Wh (b.length+1) (val a+val b))),VE,Wh,Uv,UK,u,X3,e1]
 ·have f:=Rz g (ws:=dg (a.length+1) (val a+val b)) (by rw[Wh];omega);rw[SD (v d e (by omega))]at f;refine Xv.of (g.Wa _ _ rfl) (((XT.ge (a.length+1)).and (f.Xk.and g.Xk)).mono fun E K ⟨y,e1,u⟩=> ?_);obtain⟨x,k,C,p,q,r,s,t,h⟩:=yg (E:=E) (K:=K) i j d e (by omega) z 177 (by omega);have l:Xd .i64 (.ofNat (a.length+1))=.ofNat (a.length+1):=wrap_i64 (by omega);have m:4*(a.length+1)<=lim:=by unfold lim;omega
  have n:a.length+1<=9223372036854775807:=by omega
  have o:a.length<a.length+1:=by omega
  simp only[Xo,Xs,reduceIte,Nat.reduceEqDiff,Nat.reduceLeDiff,x179,i.len,j.len,c,l,m,n,o,Zf,Ty,p,q,r,s,X7 t,W3,h,Sp _ (Yv (Wh (a.length+1) (val a+val b))),VE,Wh,Uv,UK,u,X3,e1]
theorem dr {E}{K}{s t}{a b}(i:UB s a)(j:UB t b)(q:WR a)(r:WR b)(l:a.length=b.length)(A:a.length<10000000000000):∀n k H,n<k->n<=a.length->
  ∃c d,Xb E K 0 [0,1,5] x188_1 k ⟨[(0,La4 s),(1,La4 t),(5,La4 (.int .i64 (pI n)))],H⟩=some (c,⟨d,H⟩)/\
   ((val (a.take n)=val (b.take n)/\c=.exit 0)\/(val (a.take n)<val (b.take n)/\c=.ret/\Xi d 4=some (La4 (.int .i64 (.negSucc 0))))\/(val (b.take n)<val (a.take n)/\c=.ret/\Xi d 4=some (La1 1)))
 |_,0,_,h,_=>by omega
 |0,k+1,H,_,_=>by
  refine⟨.exit 0,?_⟩;apply VW
  ·rw[Xb];simp only[Xo,Xs,reduceIte,Nat.reduceEqDiff,x188_1,pI];rfl
  ·exact .inl ⟨rfl,rfl⟩
 |n+1,k+1,H,hk,hn=>by
  obtain⟨w,g⟩:∃w,a[n]? =some w:=⟨_,Zd (by omega)⟩;obtain⟨v,f⟩:∃v,b[n]? =some v:=⟨_,Zd (by omega)⟩;have z:=UR (n:=n) (by omega);have B:val (a.take n)<4294967296^n:=by
   have:=Vd (ws:=a.take n) (fun x m=>q x (List.mem_of_mem_take m))
   rwa[Z4,Nat.min_eq_left (by omega)]at this
  have C:val (b.take n)<4294967296^n:=by
   have:=Vd (ws:=b.take n) (fun x m=>r x (List.mem_of_mem_take m))
   rwa[Z4,Nat.min_eq_left (by omega)]at this
  rw[VQ g,VQ f];by_cases e:w=v
  ·subst e;obtain⟨c,d,u,y⟩:=dr i j q r l A n k H (by omega) (by omega);refine⟨c,d,?_,y.imp (fun h=>⟨by omega,h.2⟩) fun h=>h.imp (fun h=>⟨by omega,h.2⟩) fun h=>⟨by omega,h.2⟩⟩;rw[Xb];simp only[Xo,Xs,reduceIte,Nat.reduceEqDiff,x188_1,pI,Zw,i.idx g,j.idx f,z];exact u
  ·by_cases o:w<v
   ·have:=Zm (4294967296^n) (show w+1<=v from o);rw[ZX,Yf]at this;refine⟨.ret,?_⟩;apply VW
    ·rw[Xb];simp only[Xo,Xs,reduceIte,Nat.reduceEqDiff,x188_1,pI,Zw,i.idx g,j.idx f,e,o];rfl
    ·exact .inr (.inl ⟨by omega,rfl,by simp only[Xo,reduceIte,Nat.reduceEqDiff]⟩)
   ·have:=Zm (4294967296^n) (show v+1<=w by omega);rw[ZX,Yf]at this;refine⟨.ret,?_⟩;apply VW
    ·rw[Xb];simp only[Xo,Xs,reduceIte,Nat.reduceEqDiff,x188_1,pI,Zw,i.idx g,j.idx f,e,o];rfl
    ·exact .inr (.inr ⟨by omega,rfl,by simp only[Xo,reduceIte]⟩)
def gH (m n:Nat):Int:=if m<n then .negSucc 0 else if n<m then .ofNat 1 else .ofNat 0
theorem gw {B}(s:Std B){o p}{a b}(f:UB o a)(g:UB p b)(j:WR a)(m:WR b)(r:Canon a)(l:Canon b)(t:a.length<10000000000000)(x:b.length<10000000000000):
  Xv B 188 [.one o,.one p] (.one (.int .i64 (gH (val a) (val b)))):=by
 refine Xv.of (s.Wa _ _ rfl) ((XT.ge (a.length+1)).mono fun E K w=> ?_);by_cases c:a.length=b.length
 ·obtain⟨v,u,k,d⟩:=dr (E:=E) (K:=K) f g j m c t a.length K [] (by omega) (Zf _);rw[Yg,c,Yg]at d;rw[c]at k;have i:=UR (n:=b.length) (by omega);unfold gH;rcases d with⟨e,rfl⟩|⟨e,rfl,d⟩|⟨e,rfl,d⟩
  ·simp only[Xo,Xs,reduceIte,Nat.reduceEqDiff,Nat.reduceLeDiff,x188,f.len,g.len,c,i,k,e,Zx]
  ·simp only[Xo,Xs,reduceIte,Nat.reduceEqDiff,Nat.reduceLeDiff,x188,f.len,g.len,c,i,k,e,d]
  ·simp only[Xo,Xs,reduceIte,Nat.reduceEqDiff,Nat.reduceLeDiff,x188,f.len,g.len,c,i,k,e,d,Nat.lt_asymm e]
 ·have q:∀{a b:P'},WR a->Canon b->a.length<b.length->val a<val b:=by
   intro a b j l h;have i:=ZO (Vd j) (VP (Nat.le_of_lt_succ (by omega:a.length<b.length-1+1)));exact ZO i (PT l (by omega))
  unfold gH;by_cases h:a.length<b.length
  ·have e:=q j l h;simp only[Xo,Xs,reduceIte,Nat.reduceEqDiff,Nat.reduceLeDiff,x188,f.len,g.len,c,h,e]
  ·have e:=q m r (by omega);simp only[Xo,Xs,reduceIte,Nat.reduceEqDiff,Nat.reduceLeDiff,x188,f.len,g.len,c,h,e,Nat.lt_asymm e]
theorem fw {E}{K}{J L}{a b}(D:UB J a)(B:UB L b)(F:WR a)(G:WR b)(n:b.length<=a.length)(P:a.length<10000000000000)(t):
  ∀d i k r f,i+d=a.length->d<k->r.length=a.length->WR r->f<2->(∀j,i<=j->j<a.length->r[j]? =some 0)->val r+val (b.take i)=val (a.take i)+f*4294967296^i->
  ∃e m g,Xb E K 0 [0,1,5,6,13,14] x180_1 k ⟨[(0,La4 J),(1,La4 L),(5,.one (.own 0 0 0 a.length)),(6,La3 f),(13,La1 a.length),(14,La1 i)],[⟨false,0,1,Wn r,false,t⟩]⟩=some (.exit 0,⟨e,[⟨false,0,1,Wn m,false,t⟩]⟩)/\
   Xi e 5=some (.one (.own 0 0 0 a.length))/\m.length=a.length/\WR m/\val m+val b=val a+g*4294967296^a.length
 |_,_,0,_,_,_,h,_,_,_,_,_=>by omega
 |0,i,k+1,r,f,hi,_,h1,h2,h3,h4,h5=>by
  obtain rfl:i=a.length:=by omega
  rw[Yg,Ze n]at h5;have :∃e,Xb E K 0 [0,1,5,6,13,14] x180_1 (k+1) ⟨[(0,La4 J),(1,La4 L),(5,.one (.own 0 0 0 a.length)),(6,La3 f),(13,La1 a.length),(14,La1 a.length)],[⟨false,0,1,Wn r,false,t⟩]⟩=some (.exit 0,⟨e,[⟨false,0,1,Wn r,false,t⟩]⟩)/\
    Xi e 5=some (.one (.own 0 0 0 a.length)):=by
   apply VW
   ·rw[Xb];simp only[Xo,Xs,reduceIte,Nat.reduceEqDiff,x180_1,Zx];rfl
   ·simp only[Xo,reduceIte,Nat.reduceEqDiff]
  obtain⟨e,s,u⟩:=this;exact⟨e,r,f,s,u,h1,h2,h5⟩
 |d+1,i,k+1,r,f,hi,hk,h1,h2,h3,h4,h5=>by
  obtain⟨w,A⟩:∃w,a[i]? =some w:=⟨_,Zd (by omega)⟩;have z:i<a.length:=by omega
  have T:=F.get A;have C:=h4 i (Zf _) (by omega);have N:w%18446744073709551616=w:=Zi (by omega);have O:Xd .i64 (.ofNat (i+1))=.ofNat (i+1):=wrap_i64 (by omega);obtain⟨c,e1,Q⟩:∃c,Xd .u64 (.ofNat w-.ofNat f)=.ofNat c/\c=(w+(18446744073709551616-f))%18446744073709551616:=⟨_,NQ (by omega),rfl⟩;by_cases o:i<b.length
  ·obtain⟨v,I⟩:∃v,b[i]? =some v:=⟨_,Zd o⟩;have S:=G.get I;have R:v%18446744073709551616=v:=Zi (by omega);obtain⟨l,e2,U⟩:∃l,Xd .u64 (.ofNat c-.ofNat v)=.ofNat l/\l=(c+(18446744073709551616-v))%18446744073709551616:=⟨_,NQ (by omega),rfl⟩;have M:l%4294967296+f+v=w+4294967296*(l / 9223372036854775808):=by omega
   obtain⟨e,m,g,s,u⟩:=fw D B F G n P t d (i+1) k (r.set i (l%4294967296)) (l / 9223372036854775808) (by omega) (by omega) (by simpa using h1) (h2.set i (by omega)) (by omega)
    (fun j H q=>by rw[ZY (by omega)];exact h4 j (by omega) q) (by
     have e1:=TZ (w:=l%4294967296) C;rw[VQ A,VQ I,ZI];generalize l%4294967296=x at *;generalize l / 9223372036854775808=y at *;generalize 4294967296^i=p at *;clear Q U
     grind)
   refine⟨e,m,g,?_,u⟩;rw[Xb];simp only[Xo,Xs,reduceIte,Nat.reduceEqDiff,Nat.reduceLeDiff,x180_1,z,D.idx A,B.len,o,B.idx I,N,O,R,e1,e2,X7 C,W3];exact s
  ·have M:c%4294967296+f=w+4294967296*(c / 9223372036854775808):=by omega
   obtain⟨e,m,g,s,u⟩:=fw D B F G n P t d (i+1) k (r.set i (c%4294967296)) (c / 9223372036854775808) (by omega) (by omega) (by simpa using h1) (h2.set i (by omega)) (by omega)
    (fun j H q=>by rw[ZY (by omega)];exact h4 j (by omega) q) (by
     have e1:=TZ (w:=c%4294967296) C;rw[VQ A,Ze (show b.length<=i+1 by omega),ZI];rw[Ze (show b.length<=i by omega)]at h5;generalize c%4294967296=x at *;generalize c / 9223372036854775808=y at *;generalize 4294967296^i=p at *;clear Q
     grind)
   refine⟨e,m,g,?_,u⟩;rw[Xb];simp only[Xo,Xs,reduceIte,Nat.reduceEqDiff,Nat.reduceLeDiff,x180_1,z,D.idx A,B.len,o,N,O,e1,X7 C,W3];exact s
theorem kZ {B}(d:Std B){n o}{a b}(p:UB n a)(z:UB o b)(i:WR a)(q:WR b)(e:b.length<=a.length)(v:a.length<10000000000000)(G:val b<=val a):
  Xv B 180 [.one n,.one o] (.one (.Xl (UI (Xe (val a-val b))))):=by
 have x:=Vd i;have m:=Rz d (ws:=dg a.length (val a-val b)) (by rw[Wh];omega);rw[SD (by omega)]at m;refine Xv.of (d.Wa _ _ rfl) (((XT.ge (a.length+1)).and (m.Xk.and d.Xk)).mono fun E K ⟨D,e1,w⟩=> ?_);obtain⟨A,y,c,t,u,k,l,C⟩:=fw (E:=E) (K:=K) p z i q e v 177 a.length 0 K (List.replicate a.length 0) 0 (by omega) (by omega) (by simp) (WR.replicate _) (by decide)
  (fun j _ F=>by rw[YE,if_pos (by omega)]) (by rw[Uj];simp[val])
 have g:y=dg a.length (val a-val b):=by
  have:=Vd l;rw[k]at this;have f:c=0:=by
   rcases Yk c with h|h
   ·exact h
   ·have:=Zm (4294967296^a.length) h;omega
  subst f;exact Sd l k (by omega)
 subst g;have r:4*a.length<=lim:=by unfold lim;omega
 have s:a.length<=9223372036854775807:=by omega
 simp only[Xo,Xs,reduceIte,Nat.reduceEqDiff,Nat.reduceLeDiff,x180,p.len,r,s,Zf,Ty,t,u,Sp _ (Yv (Wh a.length (val a-val b))),VE,Wh,Uv,UK,w,X3,e1]
theorem RG {x y z u}(a:x<4294967296)(b:y<4294967296)(d:z<4294967296)(c:u<4294967296):x*y+z+u<18446744073709551616:=by
 have:=ZA (Nat.le_sub_one_of_lt a) (Nat.le_sub_one_of_lt b);omega
theorem yB {E}{K}{la m}{b}(P:UB m b)(G:WR b){e}(T:e+b.length<10000000000000)(t){i x}(q:i<e)(O:x<4294967296)(V):
  ∀d j k r c,j+d=b.length->d<k->r.length=e+b.length->WR r->c<4294967296->(∀p,i+b.length<=p->p<e+b.length->r[p]? =some 0)->val r+c*4294967296^(i+j)+x*4294967296^(i+j)*val (b.drop j)=V->
  ∃a g f,Xb E K 0 [0,1,5,6,7,8,18,19,28,29] x181_1 k ⟨[(0,La4 la),(1,La4 m),(5,.one (.own 0 0 0 (e+b.length))),(6,La1 i),(7,La3 c),(8,La3 x),(18,La1 e),(19,La1 i),(28,La1 b.length),(29,La1 j)],[⟨false,0,1,Wn r,false,t⟩]⟩=some (.exit 2,⟨a,[⟨false,0,1,Wn g,false,t⟩]⟩)/\
   (Xi a 0=some (La4 la)/\Xi a 1=some (La4 m)/\Xi a 5=some (.one (.own 0 0 0 (e+b.length)))/\Xi a 6=some (La1 i)/\Xi a 7=some (La3 f)/\Xi a 18=some (La1 e)/\Xi a 19=some (La1 i))/\
   g.length=e+b.length/\WR g/\f<4294967296/\(∀p,i+b.length<=p->p<e+b.length->g[p]? =some 0)/\val g+f*4294967296^(i+b.length)=V
 |_,_,0,_,_,_,h,_,_,_,_,_=>by omega
 |0,j,k+1,r,c,hi,_,h1,h2,h3,h4,h5=>by
  obtain rfl:j=b.length:=by omega
  have :∃a,Xb E K 0 [0,1,5,6,7,8,18,19,28,29] x181_1 (k+1) ⟨[(0,La4 la),(1,La4 m),(5,.one (.own 0 0 0 (e+b.length))),(6,La1 i),(7,La3 c),(8,La3 x),(18,La1 e),(19,La1 i),(28,La1 b.length),(29,La1 b.length)],[⟨false,0,1,Wn r,false,t⟩]⟩=some (.exit 2,⟨a,[⟨false,0,1,Wn r,false,t⟩]⟩)/\
    (Xi a 0=some (La4 la)/\Xi a 1=some (La4 m)/\Xi a 5=some (.one (.own 0 0 0 (e+b.length)))/\Xi a 6=some (La1 i)/\Xi a 7=some (La3 c)/\Xi a 18=some (La1 e)/\Xi a 19=some (La1 i)):=by
   apply VW
   ·rw[Xb];simp only[Xo,Xs,reduceIte,Nat.reduceEqDiff,x181_1,Zx];rfl
   ·simp only[Xo,reduceIte,Nat.reduceEqDiff,and_self]
  obtain⟨a,n,o⟩:=this;refine⟨a,r,c,n,o,h1,h2,h3,h4,?_⟩;rw[List.drop_length]at h5;simpa[val]using h5
 |d+1,j,k+1,r,c,hi,hk,h1,h2,h3,h4,h5=>by
  have l:j<b.length:=by omega
  obtain⟨v,D⟩:∃v,b[j]? =some v:=⟨_,Zd l⟩;obtain⟨u,B⟩:∃u,r[i+j]? =some u:=⟨_,Zd (by omega)⟩;have F:=G.get D;have C:=h2.get B;have N:=RG O F C h3;have H:v%18446744073709551616=v:=Zi (by omega);have I:u%18446744073709551616=u:=Zi (by omega);have J:(x*v)%18446744073709551616=x*v:=Zi (by omega);have L:(x*v+u)%18446744073709551616=x*v+u:=Zi (by omega);have M:(x*v+u+c)%18446744073709551616=x*v+u+c:=Zi N;have Q:Xd .i64 (.ofNat (i+j))=.ofNat (i+j):=wrap_i64 (by omega);have R:Xd .i64 (.ofNat (j+1))=.ofNat (j+1):=wrap_i64 (by omega);have S:i+j<e+b.length:=by omega
  obtain⟨a,g,f,n,o⟩:=yB (la:=la) P G T t q O V d (j+1) k (r.set (i+j) ((x*v+u+c)%4294967296)) ((x*v+u+c) / 4294967296) (by omega) (by omega) (by simpa using h1) (h2.set _ (by omega)) (by omega)
   (fun p s A=>by rw[ZY (by omega)];exact h4 p s A) (by
    have e1:=TZ (w:=(x*v+u+c)%4294967296) B;rw[OQ D]at h5;have e2:(x*v+u+c)%4294967296+4294967296*((x*v+u+c) / 4294967296)=x*v+u+c:=Nat.mod_add_div _ _;rw[show i+(j+1)=(i+j)+1 by omega,ZI];generalize (x*v+u+c)%4294967296=y at *;generalize (x*v+u+c) / 4294967296=z at *;generalize 4294967296^(i+j)=p at *;clear N J L M H I
    grind)
  refine⟨a,g,f,?_,o⟩;rw[Xb];simp only[Xo,Xs,reduceIte,Nat.reduceEqDiff,Nat.reduceLeDiff,x181_1,l,P.idx D,H,I,J,L,M,Q,R,S,X7 B,W3];exact n
theorem ti {E}{K}{la q}{a b}(F:UB la a)(v:UB q b)(z:WR a)(A:WR b)(C:a.length+b.length<10000000000000)(B:b.length<K)(t):
  ∀d i k r,i+d=a.length->d<k->r.length=a.length+b.length->WR r->(∀p,i+b.length<=p->p<a.length+b.length->r[p]? =some 0)->val r=val (a.take i)*val b->
  ∃c f,Xb E K 0 [0,1,5,18,19] x181_2 k ⟨[(0,La4 la),(1,La4 q),(5,.one (.own 0 0 0 (a.length+b.length))),(18,La1 a.length),(19,La1 i)],[⟨false,0,1,Wn r,false,t⟩]⟩=some (.exit 0,⟨c,[⟨false,0,1,Wn f,false,t⟩]⟩)/\
   Xi c 5=some (.one (.own 0 0 0 (a.length+b.length)))/\f.length=a.length+b.length/\WR f/\val f=val a*val b
 |_,_,0,_,_,h,_,_,_,_=>by omega
 |0,i,k+1,r,hi,_,h1,h2,h3,h4=>by
  obtain rfl:i=a.length:=by omega
  rw[Yg]at h4;have :∃c,Xb E K 0 [0,1,5,18,19] x181_2 (k+1) ⟨[(0,La4 la),(1,La4 q),(5,.one (.own 0 0 0 (a.length+b.length))),(18,La1 a.length),(19,La1 a.length)],[⟨false,0,1,Wn r,false,t⟩]⟩=some (.exit 0,⟨c,[⟨false,0,1,Wn r,false,t⟩]⟩)/\Xi c 5=some (.one (.own 0 0 0 (a.length+b.length))):=by
   apply VW
   ·rw[Xb];simp only[Xo,Xs,reduceIte,Nat.reduceEqDiff,x181_2,Zx];rfl
   ·simp only[Xo,reduceIte,Nat.reduceEqDiff]
  obtain⟨c,j,l⟩:=this;exact⟨c,r,j,l,h1,h2,h4⟩
 |d+1,i,k+1,r,hi,hk,h1,h2,h3,h4=>by
  have e:i<a.length:=by omega
  obtain⟨x,n⟩:∃x,a[i]? =some x:=⟨_,Zd e⟩;have o:=z.get n;obtain⟨X,W,y,M,⟨O,P,Q,R,S,T,U⟩,V,s,u,g,N⟩:=yB (E:=E) (K:=K) (la:=la) v A C t e o (val r+x*4294967296^i*val b) b.length 0 K r 0 (by omega) B h1 h2 (by decide) h3 (by simp);have D:=g (i+b.length) (Zf _) (by omega);obtain⟨c,f,j,l⟩:=ti F v z A C B t d (i+1) k (W.set (i+b.length) (y%4294967296)) (by omega) (by omega) (by simpa using V) (s.set _ (by omega))
   (fun p L m=>by rw[ZY (by omega)];exact g p (by omega) m) (by
    have e1:=TZ (w:=y%4294967296) D;rw[Zi u]at e1⊢;rw[VQ n,ZX,<-h4];have :x*4294967296^i*val b=x*4294967296^i*val b:=rfl;omega)
  refine⟨c,f,?_,l⟩;have G:x%18446744073709551616=x:=Zi (by omega);have H:Xd .i64 (.ofNat (i+1))=.ofNat (i+1):=wrap_i64 (by omega);have I:Xd .i64 (.ofNat (i+b.length))=.ofNat (i+b.length):=wrap_i64 (by omega);have J:i+b.length<a.length+b.length:=by omega
  rw[Xb];simp only[Xo,Xs,reduceIte,Nat.reduceEqDiff,Nat.reduceLeDiff,x181_2,e,F.idx n,v.len,G,H,I,J,M,O,P,Q,R,S,T,U,X7 D,W3];exact j
theorem DG {B}(c:Std B){i k}{a b}(l:UB i a)(m:UB k b)(f:WR a)(g:WR b)(v:a.length+b.length<10000000000000):
  Xv B 181 [.one i,.one k] (.one (.Xl (UI (Xe (val a*val b))))):=by
 have d:=Vd f;have e:=Vd g;have h:=Rz c (ws:=dg (a.length+b.length) (val a*val b)) (by rw[Wh];omega);rw[SD (by rw[Ye];exact Nat.mul_lt_mul'' d e)]at h;refine Xv.of (c.Wa _ _ rfl) (((XT.ge (a.length+b.length+1)).and (h.Xk.and c.Xk)).mono fun E K ⟨y,e1,w⟩=> ?_);obtain⟨x,A,q,r,s,t,u⟩:=ti (E:=E) (K:=K) l m f g v (by omega) 177 a.length 0 K (List.replicate (a.length+b.length) 0) (by omega) (by omega) (by simp) (WR.replicate _)
  (fun j _ z=>by rw[YE,if_pos (by omega)]) (by rw[Uj];simp[val])
 obtain rfl:=Sd t s u;have n:Xd .i64 (.ofNat (a.length+b.length))=.ofNat (a.length+b.length):=wrap_i64 (by omega);have o:4*(a.length+b.length)<=lim:=by unfold lim;omega
 have p:a.length+b.length<=9223372036854775807:=by omega
 simp only[Xo,Xs,reduceIte,Nat.reduceEqDiff,Nat.reduceLeDiff,x181,l.len,m.len,n,o,p,Zf,Ty,q,r,Sp _ (Yv (Wh (a.length+b.length) (val a*val b))),VE,Wh,Uv,UK,w,X3,e1]
theorem VO {B}(e:Std B){l}{a}(neg)(s:UB l a)(d:WR a)(i:a.length<10000000000000):∃c,Xv B 172 [.one (.bool neg),.one l] (.agg c)/\Tc c (if neg then -(val a:Int)else val a):=by
 obtain⟨r,g,b⟩:=rX e s (by omega);rw[Te d rfl]at b;by_cases h0:val a=0
 ·refine⟨[.bool false,.Xp],Xv.of (e.Wa _ _ rfl) ((g.Xk.and e.Xk).mono fun E K ⟨e1,f⟩=> ?_),.Xp,?_,?_⟩
  ·rw[h0,Vc]at b;simp only[Xo,Xs,reduceIte,Nat.reduceEqDiff,Nat.reduceLeDiff,x172,f,X3,e1,b.len]
  ·rw[h0];cases neg<;>rfl
  ·rw[h0];cases neg<;>simp only[ZC,if_false,if_true]<;>exact dM.zero
 ·have h:(Xe (val a)).length≠0:=by rw[UZ h0];simp
  refine⟨[.bool neg,r],Xv.of (e.Wa _ _ rfl) ((g.Xk.and e.Xk).mono fun E K ⟨e1,f⟩=> ?_),r,?_,?_⟩
  ·simp only[Xo,Xs,reduceIte,Nat.reduceEqDiff,Nat.reduceLeDiff,x172,f,X3,e1,b.len,h]
  ·cases neg
   ·simp only[ZC,if_false];rw[decide_eq_false (by omega)]
   ·simp only[if_true];rw[decide_eq_true (by omega)]
  ·have :(if neg then -(val a:Int)else val a).natAbs=val a:=by cases neg<;>simp
   rw[this];exact b
theorem az {B}(f:Std B){l}{b}(s:UB l b)(i:b.length<10000000000000):∃r,Xv B 173 [.one l] (.one r)/\UB r b:=by
 have g:∀h,WH h (.p l)=some (Wn b,[]):=fun h=>by rw[Sl.chunks s,xY]
 by_cases h0:b=[]
 ·subst h0;refine⟨.Xp,Xv.of (f.Wa _ _ rfl) (XT.of fun K n=> ?_),.nil⟩;have d:∀e n a,W9 e 1 4 n (Wn []) a=some ⟨La4 .Xp,[],[],a⟩:=fun _ _ _=>rfl
  simp only[Xo,Xs,reduceIte,Nat.reduceEqDiff,Nat.reduceLeDiff,x173,g,d];simp only[Wn,Xo];simp only[show∀e n a,W9 e 1 4 n [] a=some ⟨La4 .Xp,[],[],a⟩from fun _ _ _=>rfl,Xo,reduceIte,Nat.reduceEqDiff]
 ·refine⟨.Xl (UI b),Xv.of (f.Wa _ _ rfl) (XT.of fun K n=> ?_),.Xl⟩;have d:(Wn b).all (fun c=>decide (c.length=1))=true:=by
   have:=zO b;rw[ZH]at this⊢;intro x j;have:=this x j;rwa[im]at this
  simp only[Xo,Xs,reduceIte,Nat.reduceEqDiff,Nat.reduceLeDiff,x173,g,d,Cc h0 i,Sp b (Zf _),VE,Uv,Zf]
theorem dO {B}(a:Std B){m}(b:m<18446744073709551616):Xv B 177 [.one (La2 m)] (.one (.Xl (UI (Xe m)))):=by
 have c:Xv B 175 [.one (.Xl [[.int .u32 (.ofNat (m%4294967296))],[.int .u32 (.ofNat (m / 4294967296%4294967296))]])] (.one (.Xl (UI (Xe m)))):=by
  have:=Rz a (ws:=[m%4294967296,m / 4294967296%4294967296]) (by simp);rw[Te (n:=m) (WR.mk (by omega) (WR.mk (by omega) WR.nil)) (by simp only[val];omega)]at this;exact this
 refine Xv.of (a.Wa _ _ rfl) ((c.Xk.and a.Xk).mono fun E K ⟨e1,b⟩=> ?_);simp only[Xo,Xs,reduceIte,Nat.reduceEqDiff,Nat.reduceLeDiff,Nat.reduceLT,Nat.reduceAdd,x177,b,X3,e1]
theorem Jz {B}(b:Std B){m}(j:m<9223372036854775808):∃c,Xv B 155 [.one (La0 m)] (.agg c)/\Tc c m:=by
 have g:=dO b (m:=m) (by omega);have a:(Xe m).length<10000000000000:=by
  rcases Z8 (Xe m).length 3 with h|h
  ·omega
  ·have:=PT (WO m) (by omega);rw[Xn]at this;have:=Zy (VP (show 2<=(Xe m).length-1 by omega)) this;simp at this;omega
 obtain⟨c,i,d⟩:=VO b false (l:=.Xl (UI (Xe m))) .Xl (Xr m) a;rw[Xn]at d;refine⟨c,Xv.of (b.Wa _ _ rfl) ((g.Xk.and (i.Xk.and b.Xk)).mono fun E K ⟨e1,e2,e⟩=> ?_),by simpa using d⟩;obtain⟨l,rfl,-⟩:=d;have f:m%18446744073709551616=m:=Zi (by omega);simp only[Xo,Xs,reduceIte,Nat.reduceEqDiff,Nat.reduceLeDiff,Nat.reduceAdd,x155,f,Nat.not_lt_zero,e,X3,e1,e2]
theorem sC {B}(e:Std B){c}{z}(f:Tc c z):Xv B 146 [.agg c] (.one (.int .i64 (mi z))):=by
 obtain⟨m,rfl,a⟩:=f;refine Xv.of (e.Wa _ _ rfl) (XT.of fun K n=> ?_);unfold mi;by_cases h0:z=0
 ·subst h0;have:=a.len;rw[show Int.natAbs 0=0 from rfl,Vc]at this;simp only[Xo,Xs,reduceIte,Nat.reduceEqDiff,Nat.reduceLeDiff,Nat.reduceAdd,x146,this]
 ·have d:(Xe z.natAbs).length≠0:=by rw[Ne,Ui];omega
  by_cases b:z<0
  ·simp only[Xo,Xs,reduceIte,Nat.reduceEqDiff,Nat.reduceLeDiff,Nat.reduceAdd,x146,a.len,d,h0,b]
  ·simp only[Xo,Xs,reduceIte,Nat.reduceEqDiff,Nat.reduceLeDiff,Nat.reduceAdd,x146,a.len,d,h0,b]
theorem Qh {B}(h:Std B){c}{z}(i:Tc c z):Xv B 152 [.agg c] (.one (.bool (decide (z=1)))):=by
 obtain⟨m,rfl,d⟩:=i;refine Xv.of (h.Wa _ _ rfl) (XT.of fun K n=> ?_);by_cases b:z<0
 ·have :z≠1:=by omega
  simp only[Xo,Xs,reduceIte,Nat.reduceEqDiff,Nat.reduceLeDiff,Nat.reduceAdd,x152,b,this]
 ·by_cases a:(Xe z.natAbs).length=1
  ·obtain⟨e,f⟩:=Sg.1 a;have j:(Xe z.natAbs)[0]? =some z.natAbs:=by rw[OO e f];rfl
   have g:(z.natAbs=1)=(z=1):=by simp only[eq_iff_iff];omega
   simp only[Xo,Xs,reduceIte,Nat.reduceEqDiff,Nat.reduceLeDiff,Nat.reduceAdd,x152,b,d.len,a,d.idx j,g]
  ·have :z≠1:=by
    rintro rfl;exact a (by rw[Sg];decide)
   simp only[Xo,Xs,reduceIte,Nat.reduceEqDiff,Nat.reduceLeDiff,Nat.reduceAdd,x152,b,d.len,a,this]
theorem ub (m n):yY (.ofNat 0) (gH m n)=decide (n<=m):=by
 unfold gH;by_cases h:m<n
 ·rw[if_pos h,decide_eq_false (by omega)];rfl
 ·rw[if_neg h,decide_eq_true (by omega)];split<;>rfl
theorem qf {B}(b:Std B){c}{z}(j:Tc c z)(n:Sm z):∃a,Xv B 147 [.agg c] (.agg a)/\Tc a (-z):=by
 obtain⟨m,rfl,k⟩:=j;unfold Sm at n;obtain⟨r,f,g⟩:=az b k (by omega);obtain⟨a,i,d⟩:=VO b (!decide (z<0)) g (Xr _) (by omega);rw[Xn]at d;refine⟨a,Xv.of (b.Wa _ _ rfl) ((f.Xk.and (i.Xk.and b.Xk)).mono fun E K ⟨e1,e2,e⟩=> ?_),?_⟩
 ·obtain⟨l,rfl,-⟩:=d;simp+decide only[Xo,Xs,reduceIte,Nat.reduceAdd,x147,e,X3,e1,e2]
 ·have : -z=(if(!decide (z<0))=true then -(z.natAbs:Int)else z.natAbs):=by
   by_cases h:z<0
   ·simp[h];omega
   ·simp[h];omega
  rw[this];exact d
theorem Hb {B}(b:Std B){c d}{x y}(o:Tc c x)(p:Tc d y)(t:Sm x)(u:Sm y):∃e,Xv B 156 [.agg c,.agg d] (.agg e)/\Tc e (x*y):=by
 obtain⟨m,rfl,q⟩:=o;obtain⟨n,rfl,r⟩:=p;unfold Sm at t u;have i:=DG b q r (Xr _) (Xr _) (by omega);rw[Xn,Xn]at i;have a:(Xe (x.natAbs*y.natAbs)).length<10000000000000:=by
  have:=U0 x.natAbs y.natAbs;omega
 obtain⟨e,j,f⟩:=VO b (decide (x<0)!=decide (y<0)) (l:=.Xl (UI (Xe (x.natAbs*y.natAbs)))) .Xl (Xr _) a;rw[Xn]at f;refine⟨e,Xv.of (b.Wa _ _ rfl) ((i.Xk.and (j.Xk.and b.Xk)).mono fun E K ⟨e1,e2,g⟩=> ?_),?_⟩
 ·obtain⟨l,rfl,-⟩:=f;have s:((decide (x<0)==decide (y<0))!=true)=(decide (x<0)!=decide (y<0)):=by
   cases decide (x<0)<;>cases decide (y<0)<;>rfl
  simp+decide only[Xo,Xs,reduceIte,Nat.reduceAdd,x156,g,X3,e1,e2,s]
 ·have :x*y=(if(decide (x<0)!=decide (y<0))=true then -((x.natAbs*y.natAbs:Nat):Int)else((x.natAbs*y.natAbs:Nat):Int)):=by
   rw[Int.natCast_mul];by_cases h:x<0<;>by_cases k:y<0
   ·simp only[h,k,decide_true,bne_self_eq_false,ZC,if_false];rw[show(x.natAbs:Int)= -x by omega,show(y.natAbs:Int)= -y by omega];grind
   ·simp only[h,k,decide_true,decide_false,bne_iff_ne,ne_eq,Bool.true_eq_false,not_false_eq_true,if_true];rw[show(x.natAbs:Int)= -x by omega,show(y.natAbs:Int)=y by omega];grind
   ·simp only[h,k,decide_true,decide_false,bne_iff_ne,ne_eq,ZC,not_false_eq_true,if_true];rw[show(x.natAbs:Int)=x by omega,show(y.natAbs:Int)= -y by omega];grind
   ·simp only[h,k,decide_false,bne_self_eq_false,ZC,if_false];rw[show(x.natAbs:Int)=x by omega,show(y.natAbs:Int)=y by omega]
  rw[this];exact f
theorem H6 {B}(b:Std B){c d}{x y}(v:Tc c x)(w:Tc d y)(z:Sm x)(A:Sm y):∃e,Xv B 182 [.agg c,.agg d] (.agg e)/\Tc e (x+y):=by
 obtain⟨m,rfl,r⟩:=v;obtain⟨n,rfl,s⟩:=w;unfold Sm at z A;by_cases p:decide (x<0)=decide (y<0)
 ·have j:=yf b r s (Xr _) (Xr _) (by omega) (by omega);rw[Xn,Xn]at j;have a:(Xe (x.natAbs+y.natAbs)).length<10000000000000:=by
   have:=U1 x.natAbs y.natAbs;omega
  obtain⟨e,o,f⟩:=VO b (decide (x<0)) (l:=.Xl (UI (Xe (x.natAbs+y.natAbs)))) .Xl (Xr _) a;rw[Xn]at f;refine⟨e,Xv.of (b.Wa _ _ rfl) ((j.Xk.and (o.Xk.and b.Xk)).mono fun E K ⟨e1,e2,g⟩=> ?_),?_⟩
  ·obtain⟨l,rfl,-⟩:=f;rw[<-p];have t:(decide (x<0)==decide (x<0))=true:=beq_self_eq_true _;simp+decide only[Xo,Xs,reduceIte,Nat.reduceAdd,x182,g,X3,e1,e2,t]
  ·have :x+y=(if decide (x<0)=true then -((x.natAbs+y.natAbs:Nat):Int)else((x.natAbs+y.natAbs:Nat):Int)):=by
    by_cases h:x<0
    ·have k:y<0:=by simpa[h]using p
     simp only[h,decide_true,if_true];omega
    ·have k:¬y<0:=by simpa[h]using p
     simp only[h,decide_false,ZC,if_false];omega
   rw[this];exact f
 ·have t:(decide (x<0)==decide (y<0))=false:=by simpa using p
  have h0:=gw b r s (Xr _) (Xr _) (WO _) (WO _) (by omega) (by omega);rw[Xn,Xn]at h0;have q:(x<0/\¬y<0)\/(¬x<0/\y<0):=by
   by_cases h:x<0<;>by_cases k:y<0<;>simp[h,k]at p⊢
  by_cases i:y.natAbs<=x.natAbs
  ·have j:=kZ b r s (Xr _) (Xr _) (XR i) (by omega) (by rw[Xn,Xn];exact i);rw[Xn,Xn]at j;have a:(Xe (x.natAbs-y.natAbs)).length<10000000000000:=by
    have:=XR (Nat.sub_le x.natAbs y.natAbs);omega
   obtain⟨e,o,f⟩:=VO b (decide (x<0)) (l:=.Xl (UI (Xe (x.natAbs-y.natAbs)))) .Xl (Xr _) a;rw[Xn]at f;refine⟨e,Xv.of (b.Wa _ _ rfl) ((h0.Xk.and (j.Xk.and (o.Xk.and b.Xk))).mono fun E K ⟨u,e1,e2,g⟩=> ?_),?_⟩
   ·obtain⟨l,rfl,-⟩:=f;simp+decide only[Xo,Xs,reduceIte,Nat.reduceAdd,x182,g,X3,u,e1,e2,t,ub,i]
   ·have :x+y=(if decide (x<0)=true then -((x.natAbs-y.natAbs:Nat):Int)else((x.natAbs-y.natAbs:Nat):Int)):=by
     rcases q with⟨h,k⟩|⟨h,k⟩
     ·simp only[h,decide_true,if_true];omega
     ·simp only[h,decide_false,ZC,if_false];omega
    rw[this];exact f
  ·have j:=kZ b s r (Xr _) (Xr _) (XR (by omega)) (by omega) (by rw[Xn,Xn];omega);rw[Xn,Xn]at j;have a:(Xe (y.natAbs-x.natAbs)).length<10000000000000:=by
    have:=XR (Nat.sub_le y.natAbs x.natAbs);omega
   obtain⟨e,o,f⟩:=VO b (decide (y<0)) (l:=.Xl (UI (Xe (y.natAbs-x.natAbs)))) .Xl (Xr _) a;rw[Xn]at f;refine⟨e,Xv.of (b.Wa _ _ rfl) ((h0.Xk.and (j.Xk.and (o.Xk.and b.Xk))).mono fun E K ⟨u,e1,e2,g⟩=> ?_),?_⟩
   ·obtain⟨l,rfl,-⟩:=f;simp+decide only[Xo,Xs,reduceIte,Nat.reduceAdd,x182,g,X3,u,e1,e2,t,ub,i]
   ·have :x+y=(if decide (y<0)=true then -((y.natAbs-x.natAbs:Nat):Int)else((y.natAbs-x.natAbs:Nat):Int)):=by
     rcases q with⟨h,k⟩|⟨h,k⟩
     ·simp only[k,decide_false,ZC,if_false];omega
     ·simp only[k,decide_true,if_true];omega
    rw[this];exact f
theorem RD {B}(b:Std B){c d}{x y}(r:Tc c x)(s:Tc d y)(H:Sm x)(I:Sm y):∃e,Xv B 117 [.one (.Xl [c,d])] (.agg e)/\Tc e (x*y):=by
 obtain⟨u,q,v⟩:=Jz b (m:=1) (by decide);have p:=Qh b v;have o:=Qh b r;have h:=Qh b s;obtain⟨P,Q,F⟩:=v.len;obtain⟨L,M,A⟩:=r.len;obtain⟨N,O,C⟩:=s.len;subst F A C;rw[decide_eq_true (by rfl:((1:Nat):Int)=1)]at p;by_cases g:x=1
 ·rw[decide_eq_true g]at o;by_cases a:y=1
  ·rw[decide_eq_true a]at h;refine⟨_,Xv.of (b.Wa _ _ rfl) ((q.Xk.and (p.Xk.and (o.Xk.and (h.Xk.and (b.Xk.and (XT.ge 3)))))).mono fun E K ⟨e1,e2,i,j,n,t⟩=> ?_),by rw[g,a];exact v⟩;obtain⟨f,rfl⟩:∃f,K=f+3:=⟨K-3,by omega⟩;have k:Xd .i64 (.ofNat 1)=.ofNat 1:=rfl;have l:Xd .i64 (.ofNat 2)=.ofNat 2:=rfl;simp+decide only[Xo,Xs,reduceIte,Nat.reduceAdd,x117,x117_1,Xb,n,X3,e1,i,j,k,l]
  ·rw[decide_eq_false a]at h;refine⟨_,Xv.of (b.Wa _ _ rfl) ((q.Xk.and (p.Xk.and (o.Xk.and (h.Xk.and (b.Xk.and (XT.ge 3)))))).mono fun E K ⟨e1,e2,i,j,n,t⟩=> ?_),by rw[g,Int.one_mul];exact s⟩;obtain⟨f,rfl⟩:∃f,K=f+3:=⟨K-3,by omega⟩;have k:Xd .i64 (.ofNat 1)=.ofNat 1:=rfl;have l:Xd .i64 (.ofNat 2)=.ofNat 2:=rfl;simp+decide only[Xo,Xs,reduceIte,Nat.reduceAdd,x117,x117_1,Xb,n,X3,e1,e2,i,j,k,l]
 ·have J:=o;rw[decide_eq_false g]at o;by_cases a:y=1
  ·rw[decide_eq_true a]at h;refine⟨_,Xv.of (b.Wa _ _ rfl) ((q.Xk.and (p.Xk.and (o.Xk.and (h.Xk.and (b.Xk.and (XT.ge 3)))))).mono fun E K ⟨e1,e2,i,j,n,t⟩=> ?_),by rw[a,Int.mul_one];exact r⟩;obtain⟨f,rfl⟩:∃f,K=f+3:=⟨K-3,by omega⟩;have k:Xd .i64 (.ofNat 1)=.ofNat 1:=rfl;have l:Xd .i64 (.ofNat 2)=.ofNat 2:=rfl;simp+decide only[Xo,Xs,reduceIte,Nat.reduceAdd,x117,x117_1,Xb,n,X3,e1,e2,i,j,k,l]
  ·rw[decide_eq_false a]at h;obtain⟨e,G,w⟩:=Hb b r s H I;obtain⟨e1,e2,D⟩:=w.len;subst D;refine⟨_,Xv.of (b.Wa _ _ rfl) ((q.Xk.and (p.Xk.and (o.Xk.and (h.Xk.and (G.Xk.and (b.Xk.and (XT.ge 3))))))).mono fun E K ⟨e1,e2,i,j,z,n,t⟩=> ?_),w⟩;obtain⟨f,rfl⟩:∃f,K=f+3:=⟨K-3,by omega⟩;have k:Xd .i64 (.ofNat 1)=.ofNat 1:=rfl;have l:Xd .i64 (.ofNat 2)=.ofNat 2:=rfl;simp+decide only[Xo,Xs,reduceIte,Nat.reduceAdd,x117,x117_1,Xb,n,X3,e1,e2,i,j,z,k,l]
def IsZ (c:N')(z:Int):Prop:=∃n m d e,c=[.bool n,m,.bool d,e]/\Tc [.bool n,m] z/\Tc [.bool d,e] 1
theorem wM {B}(a:Std B){c d}{x}(h:Tc c x)(b:Tc d 1):Xv B 116 [.agg c,.agg d] (.agg (c++d)):=by
 have e:=Qh a b;obtain⟨j,k,f⟩:=h.len;obtain⟨l,m,g⟩:=b.len;subst f g;rw[decide_eq_true rfl]at e;refine Xv.of (a.Wa _ _ rfl) ((e.Xk.and a.Xk).mono fun E K ⟨e1,i⟩=> ?_);simp+decide only[Xo,Xs,reduceIte,Nat.reduceAdd,x116,i,X3,e1]
