/- Program: Sum. -/
import Derived.Test.YtidginchkjhobaaGreatGrE
import Derived.Test.YtidginchkjhobaaGreatVec
set_option maxHeartbeats 16000000
set_option maxRecDepth 100000
namespace Go.Proofs.YtidginchkjhobaaGreat
open Go.Ev Go.Num
inductive En (E:Xa):PL->List PL->List PL->PL->Prop
 |nil (r:PL):En E r [] [] r
 |cons {r q l x r' rf:PL} {qs ls:List PL} (h1:E.pure 78 [.one q,.one l]=some (.XZ [.one x,.one (.int .i64 (.ofNat 0))])) (h2:E.pure 68 [.one r,.one x]=some (.one r')) (h:En E r' qs ls rf):En E r (q::qs) (l::ls) rf
abbrev Fq (Q L r:PL)(n i:Nat):List (Nat×DV):=[(0,.one (.p Q)),(1,.one (.p L)),(6,.one (.p r)),(16,.one (.p (.int .i64 (.ofNat n)))),(17,.one (.p (.int .i64 (.ofNat i))))]
theorem yv {E:Xa}{K k i:Nat}(d:E.mode=md){Q L q l x r j:PL}{g a:List PL}(v:Sl Q (Xf g))(u:Sl L (Xf a))(p:g[i]? =some q)(f:a[i]? =some l)(w:a.length<1000000)
  (n:E.pure 78 [.one q,.one l]=some (.XZ [.one x,.one (.int .i64 (.ofNat 0))])) (o:E.pure 68 [.one r,.one x]=some (.one j)) (H:List Xz):
  Xb E K 0 [0,1,6,16,17] x39_1 (k+1) ⟨Fq Q L r a.length i,H⟩=Xb E K 0 [0,1,6,16,17] x39_1 k ⟨Fq Q L j a.length (i+1),H⟩:=by
 have c:i<a.length:=(Zb.mp f).1;have s:=fun(b:HF) (e:IntKind)=>v.idx (h:=b) (k:=e) (sz:=1) (XJ p) rfl
 have t:=fun(b:HF) (e:IntKind)=>u.idx (h:=b) (k:=e) (sz:=1) (XJ f) rfl
 have m:Xe .i64 (.ofNat (i+1))=.ofNat (i+1):=wrap_i64 (by omega);rw[Xb];simp(decide:=true)only[Xm,Xq,Vg,Vm,reduceIte,Nat.reduceEqDiff,Nat.reduceLeDiff,Nat.reduceLT,Nat.reduceAdd,x39_1,d,X5,c,s,t,n,o,m,List.isEmpty_nil,Bool.true_or]
theorem EP {E:Xa}{K:Nat}(d:E.mode=md){Q L:PL}{g a:List PL}(A:Sl Q (Xf g))(z:Sl L (Xf a))(w:a.length<1000000){r m:PL}{l c:List PL}(h:En E r l c m):∀(i k:Nat) (H:List Xz),g.drop i=l->a.drop i=c->i+c.length=a.length->c.length<k->
  ∃f,Xb E K 0 [0,1,6,16,17] x39_1 k ⟨Fq Q L r a.length i,H⟩=some (.exit 0,⟨f,H⟩)/\Xh f 6=some (.one (.p m)):=by
 induction h with
 |nil r=>
  intro i k H _ _ b j;obtain⟨k,rfl⟩:∃e,k=e+1:=⟨k-1,by omega⟩;simp only[Zu,Yk]at b;subst b;apply VE
  ·rw[Xb];simp only[Xm,Xq,reduceIte,Nat.reduceEqDiff,x39_1,Zx];rfl
  ·simp only[Xm,reduceIte,Nat.reduceEqDiff]
 |cons t u h y=>
  intro i k H x v b j;obtain⟨k,rfl⟩:∃e,k=e+1:=⟨k-1,by omega⟩;simp only[Zi]at b j;obtain⟨q,n⟩:=Xi x;obtain⟨s,o⟩:=Xi v;rw[yv d A z q s w t u H];exact y (i+1) k H n o (by omega) (by omega)
theorem qP {B:Xs}(e:Std B){Q L i:PL}{c b:List PL}(k:Sl Q (Xf c))(j:Sl L (Xf b))(n:c.length=b.length)(q:b.length<100000)(h:X1 B fun E _=>En E .XC c b i):Xx B 39 [.one Q,.one L] (.XZ [.one i,.one (.int .i64 (.ofNat 0))]):=by
 refine Xx.of (e.Wa _ _ rfl) ((h.and (e.Xj.and (X1.ge (b.length+1)))).mono fun E K ⟨l,a,p⟩=> ?_);obtain⟨o,d,m⟩:=EP (K:=K) a k j (by omega) l 0 K [] rfl rfl (by omega) (by omega);have f:=k.len;have g:=j.len;rw[Xr,n]at f;rw[Xr]at g;simp only[Fq]at d;simp(decide:=true)only[Xm,Xq,Vg,Vm,reduceIte,Nat.reduceEqDiff,Nat.reduceLeDiff,Nat.reduceLT,Nat.reduceAdd,x39,a,X5,f,g,d,m,decide_true,Bool.not_true]
theorem zr {d a n:Nat}{f:List Qm}(h:Sa d a n f):QL 1 a f:=fun t e=>by
 obtain⟨z,b,c⟩:=h.cf t e;exact⟨z,by rw[b];exact Rat.mul_one _,c⟩
theorem Bk {B:Xs}(s:iH B){c r:List Qm}{g i:List (List Qm)}(h:ma c g i r):∀{lq j:List PL} {ra:PL},(∀q∈g,Sa 2 9 3 q)->(∀f∈i,Sa 3 12 4 f)->c.length+g.length*12<100000->Ut lq g->Ut j i->PQ ra c->∃l,(X1 B fun E _=>En E ra lq j l)/\PQ l r:=by
 induction h with
 |nil c=>
  intro lq j ra _ _ _ m n o;cases m;cases n;exact⟨ra,X1.of fun _ _=>.nil ra,o⟩
 |@cons c q f r g i _ _ _ _ _ _ _ T U Y Z h H=>
  intro lq j ra u t G m n o;cases m with
  |cons Q R=>
   cases n with
   |cons z A=>
    have e:=u q (Ze ..);have d:=t f (Ze ..);have v:=e.len;have w:=d.len;simp only[Zi]at G;obtain⟨X,P⟩:=tH e d;have W:=P.len;have V:q.length*(f.length*(9*12))<=3*(4*(9*12)):=ZU v (ZU w (Zh _));have F:q.length*f.length<=3*4:=ZU v w;obtain⟨x,I,J⟩:=jk s (D:=1) (D':=1) (a:=9) (b:=12) (C:=10000) (k:=1) ⟨by decide,by decide,by decide,by decide,by decide,by decide,by decide⟩ Q z (zr e) (zr d) e.pl.dc.nz d.pl.dc (yI e d) (by omega) (by omega) (by omega) (by omega);obtain⟨S,L,M⟩:=bJ s.toStd o (lq:=.Xp x) ⟨x,.Xp,J⟩ T U (by omega) (by omega);have:=RL _ c (Ry [] q f) (Zh _);obtain⟨l,N,O⟩:=H (ra:=.Xp S) (fun x p=>u x (Zc _ p)) (fun x p=>t x (Zc _ p)) (by omega) R A ⟨_,.Xp,M⟩;exact⟨l,(N.and (I.Xj.and L.Xj)).mono fun E K ⟨y,e1,e2⟩=>.cons e1 e2 y,O⟩
theorem xy {B:Xs}(e:iH B){Q L:PL}{m l:List PL}{a d:List (List Qm)}(o:Sl Q (Xf m))(n:Sl L (Xf l))(i:Ut m a)(h:Ut l d)(w:a.length=d.length)(x:a.length<200)(k:∀q∈a,Sa 2 9 3 q)(j:∀f∈d,Sa 3 12 4 f):
  ∃r b c,PQ b r/\PQ c r/\Xx B 39 [.one Q,.one L] (.XZ [.one b,.one (.int .i64 (.ofNat 0))])/\Xx B 79 [.one Q,.one L] (.XZ [.one c,.one (.int .i64 (.ofNat 0))]):=by
 obtain⟨r,s,g⟩:=sI w k j (Sa.nil 5 0 0) (by omega) (by omega);have e1:=i.length;have e2:=h.length;obtain⟨c,p,t⟩:=xV e.toStd o n i h (by omega) s;obtain⟨b,u,v⟩:=Bk e s k j (by simp only[Zu];omega) i h (ra:=.XC) ⟨[],.nil,.nil⟩;exact⟨r,b,c,v,t,qP e.toStd o n (by omega) (by omega) u,p⟩
theorem Dw {B:Xs}(b:Std B){Q L:PL}{g f:List PL}(i:Sl Q (Xf g))(h:Sl L (Xf f))(e:g.length≠f.length):Xx B 13 [.one Q,.one L] (.one (.bool false))/\Xx B 14 [.one Q,.one L] (.one (.bool false)):=by
 have c:=i.len;have d:=h.len;rw[Xr]at c d;constructor
 ·refine Xx.of (b.Wa _ _ rfl) (b.Xj.mono fun E K a=> ?_);simp(decide:=true)only[Xm,Xq,Vg,Vm,reduceIte,Nat.reduceEqDiff,Nat.reduceLeDiff,Nat.reduceLT,Nat.reduceAdd,x13,a,X5,c,d,e,decide_false,YO]
 ·refine Xx.of (b.Wa _ _ rfl) (b.Xj.mono fun E K a=> ?_);simp(decide:=true)only[Xm,Xq,Vg,Vm,reduceIte,Nat.reduceEqDiff,Nat.reduceLeDiff,Nat.reduceLT,Nat.reduceAdd,x14,a,X5,c,d,e,decide_false,YO]
theorem BJ {B:Xs}(c:iH B){Q L:PL}{p o:List PL}{g i:List (List Qm)}(u:Sl Q (Xf p))(t:Sl L (Xf o))(y:Ut p g)(x:Ut o i)(I:g.length<200)(D:∀q∈g,Sa 2 9 3 q)(C:∀f∈i,Sa 3 12 4 f):
  ∃b,Xx B 13 [.one Q,.one L] (.one (.bool b))/\Xx B 14 [.one Q,.one L] (.one (.bool b))/\(b=true->g.length=i.length):=by
 have e1:=y.length;have e2:=x.length;by_cases w:g.length=i.length
 ·obtain⟨r,P,M,k,l,F,G⟩:=xy c u t y x w I D C;obtain⟨O,N,J⟩:=k;obtain⟨v,s,A⟩:=l;have z:=N.len;rw[J.length]at z;have m:=u.len;have n:=t.len;rw[Xr]at m n;have e:p.length=o.length:=by omega
  have d:Xx B 57 [.one M,.one .XC] (.one (.bool (decide (r.length=0)))):=by
   by_cases j:r.length=0
   ·rw[decide_eq_true j];refine u7 c.toStd ?_ .nil;have :v=[]:=Yq (by rw[A.length];exact j);rw[this]at s;exact s
   ·rw[decide_eq_false j];exact xW c.toStd s (ds:=[]) .nil (by rw[A.length];exact j)
  refine⟨decide (r.length=0),?_,?_,fun _=>w⟩
  ·refine Xx.of (c.toStd.Wa _ _ rfl) ((F.Xj.and c.toStd.Xj).mono fun E K ⟨e1,a⟩=> ?_);simp(decide:=true)only[Xm,Xq,Vg,Vm,reduceIte,Nat.reduceEqDiff,Nat.reduceLeDiff,Nat.reduceLT,Nat.reduceAdd,x13,a,X5,m,n,e,e1,z,decide_true,Bool.not_true]
  ·have H:Xx B 40 [.one .XC,.one Q,.one L] (.one (.bool (decide (r.length=0)))):=by
    refine Xx.of (c.toStd.Wa _ _ rfl) ((G.Xj.and (d.Xj.and c.toStd.Xj)).mono fun E K ⟨e1,e2,a⟩=> ?_);simp(decide:=true)only[Xm,Xq,Vg,Vm,reduceIte,Nat.reduceEqDiff,Nat.reduceLeDiff,Nat.reduceLT,Nat.reduceAdd,x40,a,X5,e1,e2,decide_true,Bool.not_true]
   refine Xx.of (c.toStd.Wa _ _ rfl) ((H.Xj.and c.toStd.Xj).mono fun E K ⟨e1,a⟩=> ?_);simp(decide:=true)only[Xm,Xq,Vg,Vm,reduceIte,Nat.reduceEqDiff,Nat.reduceLeDiff,Nat.reduceLT,Nat.reduceAdd,x14,a,X5,m,n,e,e1,decide_true,Bool.not_true]
 ·obtain⟨k,l⟩:=Dw c.toStd u t (by omega);exact⟨false,k,l,fun h=>by cases h⟩
abbrev Fs (L:PL)(v i:Nat)(o:List PL):List (Nat×DV):=[(0,.one (.p L)),(3,.one (.own 0 v 0 o.length)),(4,.one (.p (.int .i64 (.ofNat i))))]
abbrev Bx (v:Nat)(o:List PL):Xz:=⟨false,v,1,pc (Xf o),false,33⟩
theorem ly {E:Xa}{K:Nat}(c:E.mode=md){L:PL}{m:List PL}{e:List (List Qm)}(u:Sl L (Xf m))(F:m.length<100000)(s:Ut m e):∀(d i k v:Nat) (o:List PL) (G:List Xz),i+d=m.length->o.length<=i->d<k->
  ∃b q n j,Xb E K 0 [0,3,4] x23_1 k ⟨Fs L v i o,Bx v o::G⟩=some (.exit 0,⟨b,Bx n j::q⟩)/\Xh b 3=some (.one (.own 0 n 0 j.length))/\j.length=o.length+((e.drop i).filter fun f=>decide (f.length≠0)).length
 |0,i,k,v,o,G,hi,ho,hk=>by
  obtain⟨k,rfl⟩:∃A,k=A+1:=⟨k-1,by omega⟩;simp only[Yk]at hi;subst hi;have a:=u.len;rw[Xr]at a;have z:=s.length;rw[YA (by omega)];have :∃b,Xb E K 0 [0,3,4] x23_1 (k+1) ⟨Fs L v m.length o,Bx v o::G⟩=some (.exit 0,⟨b,Bx v o::G⟩)/\Xh b 3=some (.one (.own 0 v 0 o.length)):=by
   apply VE
   ·rw[Xb];simp only[Xm,Xq,reduceIte,Nat.reduceEqDiff,x23_1,a,Zx];rfl
   ·simp only[Xm,reduceIte,Nat.reduceEqDiff]
  obtain⟨b,l,r⟩:=this;exact⟨b,G,v,o,l,r,rfl⟩
 |d+1,i,k,v,o,G,hi,ho,hk=>by
  obtain⟨k,rfl⟩:∃A,k=A+1:=⟨k-1,by omega⟩;have t:i<m.length:=by omega
  have z:=s.length;have y:e[i]? =some (e[i]'(by omega)):=Zf (by omega);obtain⟨p,O,Q⟩:=s.get y;obtain⟨S,R,D⟩:=Q;have w:=R.len;rw[D.length]at w;have I:=fun(N:HF) (P:IntKind)=>u.idx (h:=N) (k:=P) (sz:=1) (XJ O) rfl
  have a:=u.len;rw[Xr]at a;have B:Xe .i64 (.ofNat (i+1))=.ofNat (i+1):=wrap_i64 (by omega);have J:(o.length+1)*24<=lim:=by unfold lim;omega
  have M:o.length+1<=9223372036854775807:=by omega
  have C:e.drop i=e[i]'(by omega)::e.drop (i+1):=ZV (by omega);rw[C];generalize e[i]'(by omega)=f at w C D;by_cases H:f.length=0
  ·obtain⟨b,q,n,j,l,r,x⟩:=ly c u F s d (i+1) k v o G (by omega) (by omega) (by omega);refine⟨b,q,n,j,?_,r,by rw[Yy (by simp[H])];exact x⟩;have g:¬0<f.length:=by omega
   rw[Xb];simp(decide:=true)only[Xm,Xq,Vg,Vm,uE,reduceIte,Nat.reduceEqDiff,Nat.reduceLeDiff,Nat.reduceLT,Nat.reduceAdd,x23_1,c,X5,t,a,I,w,g,B,decide_false];exact l
  ·have g:0<f.length:=by omega
   obtain⟨b,q,n,j,l,r,x⟩:=ly c u F s d (i+1) k (v+1) (o++[p]) (G++[⟨false,0,1,[[.p p]],false,33⟩]) (by omega) (by simp only[Zk,ZR];omega) (by omega);refine⟨b,q,n,j,?_,r,by rw[YE (by simp[H]),x,Zk,ZR,Zi];omega⟩;simp only[Fs,Zk,ZR]at l;rw[Xb];simp(decide:=true)only[Xm,Xq,Vg,Vm,uE,reduceIte,Nat.reduceEqDiff,Nat.reduceLeDiff,Nat.reduceLT,Nat.reduceAdd,x23_1,c,X5,t,a,I,w,g,B,J,M,decide_true,Wl,Xr,nM];exact l
theorem nW {B:Xs}(m:Std B){L:PL}{d:List PL}{e:List (List Qm)}(t:Sl L (Xf d))(x:d.length<10000)(g:Ut d e):∃b,Xx B 23 [.one L] (.one (.Xp (Xf b)))/\b.length=(e.filter fun f=>decide (f.length≠0)).length:=by
 obtain⟨r,o,b,rfl,q⟩:=Xx.yK (p:=fun r=>∃b,r=.one (.Xp (Xf b))/\b.length=(e.filter fun f=>decide (f.length≠0)).length) (m.Wa 23 _ rfl) (a:=[.one L]) ((m.Xj.and (X1.ge (d.length+1))).mono fun E K ⟨i,w⟩=>by
  obtain⟨v,u,y,c,k,n,l⟩:=ly (K:=K) i t (by omega) g d.length 0 K 0 [] [] (by omega) (by simp) (by omega);have j:pc (Xf [])=[]:=rfl;simp only[Fs,Bx,j,Zu,Z8,Yb]at k l;have s:(pc (Xf c)).take c.length=pc (Xf c):=VA (Xf c) (by rw[Xr];exact Zh _);have g:=fun h=>VK 5 h (Xf c)
  refine⟨_,?_,c,rfl,l⟩;simp only[Xm,Xq,reduceIte,Nat.reduceEqDiff,Nat.reduceLeDiff,Nat.reduceAdd,x23,k,n,s,g,Wl,Xr,Zh])
 exact⟨b,o,q⟩
end Go.Proofs.YtidginchkjhobaaGreat
