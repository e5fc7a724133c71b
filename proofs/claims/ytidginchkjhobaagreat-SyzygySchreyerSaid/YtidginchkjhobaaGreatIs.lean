/- Program: Sum. -/
import Derived.Test.YtidginchkjhobaaGreatGrC
import Derived.Test.YtidginchkjhobaaGreatVec
set_option maxHeartbeats 16000000
set_option maxRecDepth 100000
namespace Go.Proofs.YtidginchkjhobaaGreat
open Go.Ev Go.Num
inductive IS (E:Xa):PL->N'->N'->PL->Prop
 |nil (r:PL):IS E r [] [] r
 |cons {r q l x r' rf:PL} {qs ls:N'} (h1:E.pure 78 [.one q,.one l]=some (.X9 [.one x,.one (LA 0)])) (h2:E.pure 68 [.one r,.one x]=some (.one r')) (h:IS E r' qs ls rf):IS E r (q::qs) (l::ls) rf
abbrev Kh (Q L r:PL)(n i:Nat):List (Nat×DV):=[(0,.one (.p Q)),(1,.one (.p L)),(6,.one (.p r)),(16,LB n),(17,LB i)]
theorem BO {E:Xa}{K k i:Nat}(d:E.mode=md){Q L q l x r j:PL}{g a:N'}(v:Sl Q (Xf g))(u:Sl L (Xf a))(p:g[i]? =some q)(f:a[i]? =some l)(w:a.length<1000000)
  (n:E.pure 78 [.one q,.one l]=some (.X9 [.one x,.one (LA 0)])) (o:E.pure 68 [.one r,.one x]=some (.one j)) (H:V'):
  Xb E K 0 [0,1,6,16,17] x39_1 (k+1) ⟨Kh Q L r a.length i,H⟩=Xb E K 0 [0,1,6,16,17] x39_1 k ⟨Kh Q L j a.length (i+1),H⟩:=by
 have c:i<a.length:=(Zf.mp f).1;have s:=fun(b:HF) (e:IntKind)=>v.idx (h:=b) (k:=e) (sz:=1) (XY p) rfl
 have t:=fun(b:HF) (e:IntKind)=>u.idx (h:=b) (k:=e) (sz:=1) (XY f) rfl
 have m:Xe .i64 (.ofNat (i+1))=.ofNat (i+1):=wrap_i64 (by omega);rw[Xb];simp(decide:=true)only[Xo,Xr,VR,Vx,reduceIte,Nat.reduceEqDiff,Nat.reduceAdd,x39_1,d,X4,c,s,t,n,o,m]
theorem Jv {E:Xa}{K:Nat}(d:E.mode=md){Q L:PL}{g a:N'}(A:Sl Q (Xf g))(z:Sl L (Xf a))(w:a.length<1000000){r m:PL}{l c:N'}(h:IS E r l c m):∀(i k:Nat) (H:V'),g.drop i=l->a.drop i=c->i+c.length=a.length->c.length<k->
  ∃f,Xb E K 0 [0,1,6,16,17] x39_1 k ⟨Kh Q L r a.length i,H⟩=some (.exit 0,⟨f,H⟩)/\Xh f 6=some (.one (.p m)):=by
 induction h with
 |nil r=>
  intro i k H _ _ b j;obtain⟨k,rfl⟩:∃e,k=e+1:=⟨k-1,by omega⟩;simp only[Zr,Z0]at b;subst b;apply VO
  ·rw[Xb];simp only[Xo,Xr,reduceIte,Nat.reduceEqDiff,x39_1,Zv];rfl
  ·simp only[Xo,reduceIte,Nat.reduceEqDiff]
 |cons t u h y=>
  intro i k H x v b j;obtain⟨k,rfl⟩:∃e,k=e+1:=⟨k-1,by omega⟩;simp only[Zi]at b j;obtain⟨q,n⟩:=Xi x;obtain⟨s,o⟩:=Xi v;rw[BO d A z q s w t u H];exact y (i+1) k H n o (by omega) (by omega)
theorem Hp {B:Xs}(e:Std B){Q L i:PL}{c a:N'}(k:Sl Q (Xf c))(j:Sl L (Xf a))(n:c.length=a.length)(q:a.length<100000)(h:XS B fun E _=>IS E .Xq c a i):Xu B 39 [.one Q,.one L] (.X9 [.one i,.one (LA 0)]):=by
 refine Xu.of (e.Wa _ _ rfl) ((h.and (e.Xk.and (XS.ge (a.length+1)))).mono fun E K ⟨l,b,p⟩=> ?_);obtain⟨o,d,m⟩:=Jv (K:=K) b k j (by omega) l 0 K [] rfl rfl (by omega) (by omega);have f:=k.len;have g:=j.len;rw[Xt,n]at f;rw[Xt]at g;simp only[Kh]at d;simp(decide:=true)only[Xo,Xr,reduceIte,Nat.reduceAdd,x39,f,g,d,m]
end Go.Proofs.YtidginchkjhobaaGreat
