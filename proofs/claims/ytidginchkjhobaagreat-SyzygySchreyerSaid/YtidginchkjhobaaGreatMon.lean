/- Monomials: products. -/
import Derived.Test.YtidginchkjhobaaGreatRef
set_option maxHeartbeats 16000000
set_option maxRecDepth 100000
namespace Go.Proofs.YtidginchkjhobaaGreat
open Go.Ev Go.Num
def mo (m:P'):N':=m.map fun e=>LA e
theorem Sw {m:P'}(h:m.length=8):∃a b c d e f g i,m=[a,b,c,d,e,f,g,i]:=by
 match m,h with
 |[a,b,c,d,e,f,g,i],_=>exact⟨a,b,c,d,e,f,g,i,rfl⟩
theorem w1:Xe .i64 (.ofNat 1)=.ofNat 1/\Xe .i64 (.ofNat 2)=.ofNat 2/\Xe .i64 (.ofNat 3)=.ofNat 3/\Xe .i64 (.ofNat 4)=.ofNat 4/\Xe .i64 (.ofNat 5)=.ofNat 5/\Xe .i64 (.ofNat 6)=.ofNat 6/\Xe .i64 (.ofNat 7)=.ofNat 7/\Xe .i64 (.ofNat 8)=.ofNat 8:=⟨rfl,rfl,rfl,rfl,rfl,rfl,rfl,rfl⟩
def XD (m:P'):Prop:=m.length=8/\∀e∈m,e<=65535
theorem ye {B:Xs}(n:Std B){m:P'}(y:XD m):Xu B 164 [.agg (mo m)] (.one (.bool true)):=by
 obtain⟨l,j⟩:=y;obtain⟨a,b,c,d,e,f,g,i,rfl⟩:=Sw l;simp only[Zj,ZV,or_false,forall_eq_or_imp,forall_eq]at j;obtain⟨o,p,r,s,t,u,v,w⟩:=j;refine Xu.of (n.Wa _ _ rfl) ((XS.ge 9).mono fun E K z=> ?_);obtain⟨k,rfl⟩:∃k,K=k+9:=⟨K-9,by omega⟩;have q:∀{x:Nat},x<=65535->¬65535<x:=fun h=>by omega
 simp(decide:=true)only[Xo,Xr,reduceIte,Nat.reduceAdd,Nat.reduceMul,x164,x164_1,Xb,mo,Sr,w1,Nat.not_lt_zero,q o,q p,q r,q s,q t,q u,q v,q w,Va.pure]
theorem uu {B:Xs}(n:Std B){m:P'}(y:XD m):Xu B 122 [.agg (mo m)] (.one (.bool true)):=by
 obtain⟨l,j⟩:=y;obtain⟨a,b,c,d,e,f,g,i,rfl⟩:=Sw l;simp only[Zj,ZV,or_false,forall_eq_or_imp,forall_eq]at j;obtain⟨o,p,r,s,t,u,v,w⟩:=j;refine Xu.of (n.Wa _ _ rfl) ((XS.ge 9).mono fun E K z=> ?_);obtain⟨k,rfl⟩:∃k,K=k+9:=⟨K-9,by omega⟩;have q:∀{x:Nat},x<=65535->¬65535<x:=fun h=>by omega
 simp(decide:=true)only[Xo,Xr,reduceIte,Nat.reduceAdd,Nat.reduceMul,x122,x122_1,Xb,mo,w1,Nat.not_lt_zero,q o,q p,q r,q s,q t,q u,q v,q w]
theorem eJ {B:Xs}(o:Std B){m n:P'}(p:XD m)(D:XD n)(F:XD (Xg m n)):Xu B 130 [.agg (mo m),.agg (mo n)] (.X9 [.agg (mo (Xg m n)),.one (LA 0)]):=by
 have G:=ye o F;obtain⟨Q,j⟩:=p;obtain⟨R,l⟩:=D;obtain⟨a,b,c,d,e,f,g,i,rfl⟩:=Sw Q;obtain⟨S,T,U,V,W,X,Y,i',rfl⟩:=Sw R;simp only[Zj,ZV,or_false,forall_eq_or_imp,forall_eq]at j l;obtain⟨s,t,u,v,w,z,A,C⟩:=j;obtain⟨H,I,J,L,M,N,O,P⟩:=l;refine Xu.of (o.Wa _ _ rfl) ((G.Xk.and (o.Xk.and (XS.ge 9))).mono fun E K ⟨e1,p,Z⟩=> ?_);obtain⟨r,rfl⟩:∃r,K=r+9:=⟨K-9,by omega⟩;have q:∀{x y:Nat},x<=65535->y<=65535->Xe .i64 (.ofNat (x+y))=.ofNat (x+y):=fun h k=>wrap_i64 (by omega)
 simp only[Xg,ZC,YF,mo,Zt,ZN]at e1⊢;simp(decide:=true)only[Xo,Xr,reduceIte,Nat.reduceAdd,Nat.reduceMul,x130,x130_1,Xb,w1,q s H,q t I,q u J,q v L,q w M,q z N,q A O,q C P,p,X4,e1]
theorem nU {B:Xs}(o:Std B){m n:P'}(p:XD m)(D:XD n)(F:XD (Xg m n)):Xu B 90 [.agg (mo m),.agg (mo n)] (.X9 [.agg (mo (Xg m n)),.one (LA 0)]):=by
 have G:=uu o F;obtain⟨Q,j⟩:=p;obtain⟨R,l⟩:=D;obtain⟨a,b,c,d,e,f,g,i,rfl⟩:=Sw Q;obtain⟨S,T,U,V,W,X,Y,i',rfl⟩:=Sw R;simp only[Zj,ZV,or_false,forall_eq_or_imp,forall_eq]at j l;obtain⟨s,t,u,v,w,z,A,C⟩:=j;obtain⟨H,I,J,L,M,N,O,P⟩:=l;refine Xu.of (o.Wa _ _ rfl) ((G.Xk.and (o.Xk.and (XS.ge 9))).mono fun E K ⟨e1,p,Z⟩=> ?_);obtain⟨r,rfl⟩:∃r,K=r+9:=⟨K-9,by omega⟩;have q:∀{x y:Nat},x<=65535->y<=65535->Xe .i64 (.ofNat (x+y))=.ofNat (x+y):=fun h k=>wrap_i64 (by omega)
 simp only[Xg,ZC,YF,mo,Zt,ZN]at e1⊢;simp(decide:=true)only[Xo,Xr,reduceIte,Nat.reduceAdd,Nat.reduceMul,x90,x90_1,Xb,w1,q s H,q t I,q u J,q v L,q w M,q z N,q A O,q C P,p,X4,e1]
def Xw (m:P'):Y':=m.map fun e=>.p (LA e)
theorem Wj (m:P'):(mo m).map DL.p=Xw m:=by simp[mo,Xw]
theorem Xc (m:P'):(Xw m).length=m.length:=by simp[Xw]
theorem XF (m:P'):(mo m).length=m.length:=by simp[mo]
theorem WT {m:P'}{i e:Nat}(h:m[i]? =some e):(Xw m).drop i=.p (LA e)::Xw (m.drop (i+1)):=by
 obtain⟨a,rfl⟩:=Zf.1 h;rw[Xw,<-List.map_drop,Z5 a];rfl
theorem Sy {m:P'}{i e:Nat}(h:m[i]? =some e):m.drop i=e::m.drop (i+1):=by
 obtain⟨a,rfl⟩:=Zf.1 h;exact Z5 a
theorem lO {E:Xa}{K:Nat}{m n:P'}(q:m.length=8)(r:n.length=8)(t:Nat):∀(d i k:Nat),i+d=8->d<k->
  ∃b g,Xb E K 0 [2,3,5] x35_1 k ⟨[(2,.one (.ptr 0 0 0 0)),(3,.one (.ptr 1 0 0 0)),(5,LB i)],[⟨false,0,8,[Xw m],false,t⟩,⟨false,0,8,[Xw n],false,t⟩]⟩=some (b,⟨g,[⟨false,0,8,[Xw m],false,t⟩,⟨false,0,8,[Xw n],false,t⟩]⟩)/\
   ((b=.exit 0/\WJ (m.drop i) (n.drop i)=.ofNat 0)\/(b=.ret/\Xh g 4=some (.one (.p (.int .i64 (WJ (m.drop i) (n.drop i)))))))
 |_,_,0,_,h=>by omega
 |0,i,k+1,hi,_=>by
  obtain rfl:i=8:=by omega
  refine⟨.exit 0,?_⟩;apply VO
  ·rw[Xb];simp only[Xo,Xr,reduceIte,Nat.reduceEqDiff,x35_1,Zv];rfl
  ·refine .inl ⟨rfl,?_⟩;rw[YL (by omega)];rfl
 |d+1,i,k+1,hi,hk=>by
  obtain⟨e,l⟩:∃e,m[i]? =some e:=⟨_,Zg (by omega)⟩;obtain⟨f,o⟩:∃f,n[i]? =some f:=⟨_,Zg (by omega)⟩;have s:i<8:=by omega
  have a:i<=8:=by omega
  have u:Xe .i64 (.ofNat (i+1))=.ofNat (i+1):=wrap_i64 (by omega);rw[Sy l,Sy o];simp only[WJ];by_cases c:e<f
  ·rw[if_pos c];refine⟨.ret,?_⟩;apply VO
   ·rw[Xb];simp only[Xo,Xr,reduceIte,Nat.reduceEqDiff,Yr,x35_1,s,a,WT l,WT o,Xc,q,r,c];rfl
   ·exact .inr ⟨rfl,by simp only[Xo,reduceIte,Nat.reduceEqDiff]⟩
  ·rw[if_neg c];by_cases j:f<e
   ·rw[if_pos j];refine⟨.ret,?_⟩;apply VO
    ·rw[Xb];simp only[Xo,Xr,reduceIte,Nat.reduceEqDiff,Yr,x35_1,s,a,WT l,WT o,Xc,q,r,c,j];rfl
    ·exact .inr ⟨rfl,by simp only[Xo,reduceIte,Nat.reduceEqDiff]⟩
   ·rw[if_neg j];obtain⟨b,g,v,w⟩:=lO q r t d (i+1) k (by omega) (by omega);refine⟨b,g,?_,w⟩;rw[Xb];simp only[Xo,Xr,reduceIte,Nat.reduceEqDiff,Yr,x35_1,s,a,WT l,WT o,Xc,q,r,c,j,u];exact v
theorem bo {B:Xs}(e:Std B){m n:P'}(b:m.length=8)(c:n.length=8):Xu B 35 [.agg (mo m),.agg (mo n)] (.one (.int .i64 (WJ m n))):=by
 refine Xu.of (e.Wa _ _ rfl) ((XS.ge 9).mono fun E K h=> ?_);obtain⟨g,f,d,a⟩:=lO (E:=E) (K:=K) b c 73 8 0 K rfl (by omega);rw[Yh,Yh]at a;rcases a with⟨rfl,a⟩|⟨rfl,a⟩
 ·rw[a];simp only[Xo,Xr,reduceIte,Nat.reduceEqDiff,Nat.reduceLeDiff,x35,Wj,Xc,b,c,d]
 ·simp only[Xo,Xr,reduceIte,Nat.reduceEqDiff,Nat.reduceLeDiff,x35,Wj,Xc,b,c,d,a]
theorem Uq:∀(m n:P'),m.length=n.length->Wk .i64 (Xw m) (Xw n)=some (decide (m=n))
 |[],[],_=>rfl
 |[],_::_,h=>by simp at h
 |_::_,[],h=>by simp at h
 |a::m,b::n,h=>by
  have c:=Uq m n (by simpa using h);simp only[Xw]at c;simp only[Xw,Zt,Wk,fH,Cr,YA,Bool.and_self,cond_true,c,C0,ZH,Za];by_cases d:a=b<;>by_cases e:m=n<;>simp[d,e]
theorem jB:∀{m n:P'},m.length=n.length->m≠n->∃p e f:Nat,m[p]? =some e/\n[p]? =some f/\e≠f/\(∀j,j<p->m[j]? =n[j]?)/\WJ m n=if e<f then .negSucc 0 else .ofNat 1
 |[],[],_,h=>absurd rfl h
 |[],_::_,h,_=>by simp at h
 |_::_,[],h,_=>by simp at h
 |a::m,b::n,h,hne=>by
  by_cases e:a=b
  ·subst e;obtain⟨p,x,y,c,d,g,i,k⟩:=jB (m:=m) (n:=n) (by simpa using h) (fun q=>hne (by rw[q]));refine⟨p+1,x,y,by simpa using c,by simpa using d,g,fun j l=> ?_,?_⟩
   ·cases j with
    |zero=>rfl
    |succ j=>simpa using i j (by omega)
   ·simp only[WJ,Zv,if_false];exact k
  ·refine⟨0,a,b,rfl,rfl,e,fun j l=>by omega,?_⟩;simp only[WJ];split
   ·rfl
   ·rw[if_pos (by omega)]
theorem sZ {E:Xa}{K:Nat}{m n:P'}(c:m.length=8)(q:n.length=8)(t:Nat){p e f:Nat}(l:m[p]? =some e)(s:n[p]? =some f)(g:e≠f)(r:∀j,j<p->m[j]? =n[j]?):∀(d i k:Nat),i+d=p->d<k->
  ∃b,Xb E K 0 [2,3,5] x151_1 k ⟨[(2,.one (.ptr 0 0 0 0)),(3,.one (.ptr 1 0 0 0)),(5,LB i)],[⟨false,0,8,[Xw m],false,t⟩,⟨false,0,8,[Xw n],false,t⟩]⟩=some (.exit 0,⟨b,[⟨false,0,8,[Xw m],false,t⟩,⟨false,0,8,[Xw n],false,t⟩]⟩)/\
   (Xh b 2=some (.one (.ptr 0 0 0 0))/\Xh b 3=some (.one (.ptr 1 0 0 0))/\Xh b 5=some (LB p))
 |_,_,0,_,h=>by omega
 |0,i,k+1,hi,_=>by
  obtain rfl:i=p:=by omega
  have o:i<8:=by rw[<-c];exact(Zf.1 l).1
  have a:i<=8:=by omega
  apply VO
  ·rw[Xb];simp only[Xo,Xr,reduceIte,Nat.reduceEqDiff,Yr,x151_1,o,a,WT l,WT s,Xc,c,q,g];rfl
  ·simp only[Xo,reduceIte,Nat.reduceEqDiff,and_self]
 |d+1,i,k+1,hi,hk=>by
  have A:p<8:=by rw[<-c];exact(Zf.1 l).1
  obtain⟨x,u⟩:∃x,m[i]? =some x:=⟨_,Zg (by omega)⟩;have B:n[i]? =some x:=by rw[<-r i (by omega)];exact u
  have z:i<8:=by omega
  have a:i<=8:=by omega
  have v:Xe .i64 (.ofNat (i+1))=.ofNat (i+1):=wrap_i64 (by omega);obtain⟨b,w,y⟩:=sZ (E:=E) (K:=K) c q t l s g r d (i+1) k (by omega) (by omega);refine⟨b,?_,y⟩;rw[Xb];simp only[Xo,Xr,reduceIte,Nat.reduceEqDiff,Yr,x151_1,z,a,WT u,WT B,Xc,c,q,v];exact w
theorem OJ {B:Xs}(x:Std B){m n:P'}(c:m.length=8)(j:n.length=8):Xu B 151 [.agg (mo m),.agg (mo n)] (.one (.int .i64 (WJ m n))):=by
 refine Xu.of (x.Wa _ _ rfl) ((XS.ge 9).mono fun E K z=> ?_);have k:UJ false .i64 8 [.agg (Xw m),.agg (Xw n)]=some ⟨.one (.p (.bool (decide (m=n)))),[],[],[]⟩:=by
  simp only[UJ,Xc,c,YA,cond_true,Uq m n (by omega),Va.pure,Bool.bne_false]
 have g:(Xw m).take 8=Xw m:=Zd (by rw[Xc];omega);have a:(Xw n).take 8=Xw n:=Zd (by rw[Xc];omega);by_cases h:m=n
 ·rw[h,Qa];rw[h]at k;simp only[Xo,Xr,reduceIte,Nat.reduceEqDiff,Nat.reduceLeDiff,x151,Wj,Xc,j,a,k]
 ·obtain⟨p,e,f,i,l,u,v,w⟩:=jB (by omega) h;have d:p<8:=by rw[<-c];exact(Zf.1 i).1
  have b:p<=8:=by omega
  obtain⟨y,o,q,r,s⟩:=sZ (E:=E) (K:=K) c j 73 i l u v p 0 K (by omega) (by omega);rw[w];by_cases t:e<f
  ·simp only[Xo,Xr,reduceIte,Nat.reduceEqDiff,Nat.reduceLeDiff,Yr,x151,Wj,Xc,c,j,g,a,k,h,o,q,r,s,d,b,WT i,WT l,t]
  ·simp only[Xo,Xr,reduceIte,Nat.reduceEqDiff,Nat.reduceLeDiff,Yr,x151,Wj,Xc,c,j,g,a,k,h,o,q,r,s,d,b,WT i,WT l,t]
end Go.Proofs.YtidginchkjhobaaGreat
namespace Go.Num
def Wn:P'->P'->Bool
 |a::cs,b::bs=>decide (a<=b)&&Wn cs bs
 |_,_=>true
def XJ (m n:P'):P':=List.zipWith max m n
def QW (m n:P'):P':=List.zipWith min m n
def XQ (m n:P'):P':=List.zipWith (·- ·) m n
theorem W6:∀{m n:P'},m.length=n.length->Wn m n=true->Xg m (XQ n m)=n
 |[],[],_,_=>rfl
 |[],_::_,h,_=>by simp at h
 |_::_,[],h,_=>by simp at h
 |a::m,b::n,h,hd=>by
  simp only[Wn,Zs,decide_eq_true_eq]at hd;have c:=W6 (m:=m) (n:=n) (by simpa using h) hd.2;unfold Xg XQ at c⊢;rw[ZC,ZC,c,show a+(b-a)=b by omega]
theorem Rw:∀(m k:P'),Wn m (Xg m k)=true
 |[],_=>rfl
 |_::_,[]=>rfl
 |a::m,b::k=>by
  have c:=Rw m k;unfold Xg at c⊢;simp only[ZC,Wn,c,Bool.and_true,decide_eq_true_eq];omega
theorem Tu:∀(m n:P'),m.length=n.length->Wn m (XJ m n)=true
 |[],[],_=>rfl
 |[],_::_,h=>by simp at h
 |_::_,[],h=>by simp at h
 |a::m,b::n,h=>by
  have c:=Tu m n (by simpa using h);unfold XJ at c⊢;simp only[ZC,Wn,c,Bool.and_true,decide_eq_true_eq];exact Nat.le_max_left ..
theorem Tt:∀(m n:P'),m.length=n.length->Wn n (XJ m n)=true
 |[],[],_=>rfl
 |[],_::_,h=>by simp at h
 |_::_,[],h=>by simp at h
 |a::m,b::n,h=>by
  have c:=Tt m n (by simpa using h);unfold XJ at c⊢;simp only[ZC,Wn,c,Bool.and_true,decide_eq_true_eq];exact Nat.le_max_right ..
theorem xd:∀{m n:P'} {e:Nat},(∀x∈m,x<=e)->(∀x∈n,x<=e)->∀x∈XJ m n,x<=e
 |[],_,_,_,_,x,hx=>by simp[XJ]at hx
 |_::_,[],_,_,_,x,hx=>by simp[XJ]at hx
 |a::m,b::n,e,h1,h2,x,hx=>by
  unfold XJ at hx;rw[ZC]at hx;rcases Zj.1 hx with rfl|hx
  ·exact Nat.max_le.2 ⟨h1 a (Zc ..),h2 b (Zc ..)⟩
  ·exact xd (fun y c=>h1 y (Zb _ c)) (fun y c=>h2 y (Zb _ c)) x hx
theorem we:∀{m n:P'} {e:Nat},(∀x∈m,x<=e)->∀x∈XQ m n,x<=e
 |[],_,_,_,x,hx=>by simp[XQ]at hx
 |_::_,[],_,_,x,hx=>by simp[XQ]at hx
 |a::m,b::n,e,h1,x,hx=>by
  unfold XQ at hx;rw[ZC]at hx;rcases Zj.1 hx with rfl|hx
  ·have:=h1 a (Zc ..);omega
  ·exact we (fun y c=>h1 y (Zb _ c)) x hx
end Go.Num
namespace Go.Proofs.YtidginchkjhobaaGreat
open Go.Ev Go.Num
theorem Qr (n:Nat)(h:HF):∀(m:P'),Xv (XC n h) (Xw m)=some (mo m)
 |[]=>rfl
 |e::m=>by
  have:=Qr n h m;simp only[Xw,mo]at this;simp only[Xw,mo,Zt,Xv,mJ,this]
theorem Qp (n:Nat)(h:HF):∀(m:P'),(Xw m).flatMap (Vk n h)=[]
 |[]=>rfl
 |e::m=>by
  have:=Qp n h m;simp only[Xw]at this;simp only[Xw,Zt,List.flatMap_cons,mG,this,ZE]
theorem Ch (a b:Nat):Qg SR [LB a,LB b]=some ⟨LB (max a b),[],[],[]⟩:=by
 simp only[Qg,maxD,ay,show fH .i64 .i64=true from rfl,cond_true,Va.pure];by_cases h:a<b
 ·rw[decide_eq_true h,cond_true,Nat.max_eq_right (Nat.le_of_lt h)]
 ·rw[decide_eq_false h,cond_false,Nat.max_eq_left (by omega)]
theorem Cg (a b:Nat):Qg (fun a b=>SR b a) [LB a,LB b]=some ⟨LB (min a b),[],[],[]⟩:=by
 simp only[Qg,maxD,ay,show fH .i64 .i64=true from rfl,cond_true,Va.pure];by_cases h:b<a
 ·rw[decide_eq_true h,cond_true,Nat.min_eq_right (Nat.le_of_lt h)]
 ·rw[decide_eq_false h,cond_false,Yy (by omega)]
theorem bO {m n:P'}(a:XD m)(b:XD n):XD (XJ m n):=⟨by simp[XJ,a.1,b.1],xd a.2 b.2⟩
theorem UG {m n:P'}(a:XD m)(b:XD n):XD (XQ m n):=⟨by simp[XQ,a.1,b.1],we a.2⟩
theorem NY {E:Xa}{K:Nat}{m n:P'}(o:m.length=8)(q:n.length=8)(t:Nat):∀(d i k:Nat),i+d=8->d<k->
  ∃c j,Xb E K 0 [2,3,5] x133_1 k ⟨[(2,.one (.ptr 0 0 0 0)),(3,.one (.ptr 1 0 0 0)),(5,LB i)],[⟨false,0,8,[Xw m],false,t⟩,⟨false,0,8,[Xw n],false,t⟩]⟩=some (c,⟨j,[⟨false,0,8,[Xw m],false,t⟩,⟨false,0,8,[Xw n],false,t⟩]⟩)/\((c=.exit 0/\Wn (m.drop i) (n.drop i)=true)\/(c=.ret/\Wn (m.drop i) (n.drop i)=false/\Xh j 4=some (.one (.p (.bool false)))))
 |_,_,0,_,h=>by omega
 |0,i,k+1,hi,_=>by
  obtain rfl:i=8:=by omega
  refine⟨.exit 0,?_⟩;apply VO
  ·rw[Xb];simp only[Xo,Xr,reduceIte,Nat.reduceEqDiff,x133_1,Zv];rfl
  ·exact .inl ⟨rfl,by rw[YL (by omega)];rfl⟩
 |d+1,i,k+1,hi,hk=>by
  obtain⟨a,v⟩:∃a,m[i]? =some a:=⟨_,Zg (by omega)⟩;obtain⟨b,w⟩:∃b,n[i]? =some b:=⟨_,Zg (by omega)⟩;have f:i<8:=by omega
  have x:Xe .i64 (.ofNat (i+1))=.ofNat (i+1):=wrap_i64 (by omega);have r:i<=8:=by omega
  have s:=WT v;have u:=WT w;rw[Sy v,Sy w];by_cases h:a<=b
  ·obtain⟨c,j,g,y⟩:=NY (E:=E) (K:=K) o q t d (i+1) k (by omega) (by omega);have l:¬b<a:=by omega
   have e:Wn (a::m.drop (i+1)) (b::n.drop (i+1))=Wn (m.drop (i+1)) (n.drop (i+1)):=by simp only[Wn,decide_eq_true h,Bool.true_and]
   rw[e];refine⟨c,j,?_,y⟩;rw[Xb];simp only[Xo,Xr,reduceIte,Nat.reduceEqDiff,Yr,x133_1,f,x,r,s,u,Xc,o,q,l];exact g
  ·have l:b<a:=by omega
   have e:Wn (a::m.drop (i+1)) (b::n.drop (i+1))=false:=by simp only[Wn,decide_eq_false h,Bool.false_and]
   rw[e];refine⟨.ret,?_⟩;apply VO
   ·rw[Xb];simp only[Xo,Xr,reduceIte,Nat.reduceEqDiff,Yr,x133_1,f,r,s,u,Xc,o,q,l];rfl
   ·exact .inr ⟨rfl,rfl,by simp only[Xo,reduceIte]⟩
theorem PM {B:Xs}(g:Std B){m n:P'}(a:m.length=8)(b:n.length=8):Xu B 133 [.agg (mo m),.agg (mo n)] (.one (.bool (Wn m n))):=by
 refine Xu.of (g.Wa _ _ rfl) ((XS.ge 9).mono fun E K j=> ?_);obtain⟨i,h,c,d⟩:=NY (E:=E) (K:=K) a b 73 8 0 K (by omega) (by omega);rw[Yh,Yh]at d;rcases d with⟨rfl,e⟩|⟨rfl,e,f⟩
 ·rw[e];simp only[Xo,Xr,reduceIte,Nat.reduceEqDiff,Nat.reduceLeDiff,Nat.reduceAdd,x133,Wj,Xc,a,b,c]
 ·rw[e];simp only[Xo,Xr,reduceIte,Nat.reduceEqDiff,Nat.reduceLeDiff,Nat.reduceAdd,x133,Wj,Xc,a,b,c,f]
theorem NZ {E:Xa}{K:Nat}{m n:P'}(o:m.length=8)(q:n.length=8)(t:Nat):∀(d i k:Nat),i+d=8->d<k->
  ∃c j,Xb E K 0 [2,3,6] x115_1 k ⟨[(2,.one (.ptr 0 0 0 0)),(3,.one (.ptr 1 0 0 0)),(6,LB i)],[⟨false,0,8,[Xw m],false,t⟩,⟨false,0,8,[Xw n],false,t⟩]⟩=some (c,⟨j,[⟨false,0,8,[Xw m],false,t⟩,⟨false,0,8,[Xw n],false,t⟩]⟩)/\((c=.exit 0/\Wn (m.drop i) (n.drop i)=true)\/(c=.ret/\Wn (m.drop i) (n.drop i)=false/\Xh j 4=some (.one (.p (.bool false)))))
 |_,_,0,_,h=>by omega
 |0,i,k+1,hi,_=>by
  obtain rfl:i=8:=by omega
  refine⟨.exit 0,?_⟩;apply VO
  ·rw[Xb];simp only[Xo,Xr,reduceIte,Nat.reduceEqDiff,x115_1,Zv];rfl
  ·exact .inl ⟨rfl,by rw[YL (by omega)];rfl⟩
 |d+1,i,k+1,hi,hk=>by
  obtain⟨a,v⟩:∃a,m[i]? =some a:=⟨_,Zg (by omega)⟩;obtain⟨b,w⟩:∃b,n[i]? =some b:=⟨_,Zg (by omega)⟩;have f:i<8:=by omega
  have x:Xe .i64 (.ofNat (i+1))=.ofNat (i+1):=wrap_i64 (by omega);have r:i<=8:=by omega
  have s:=WT v;have u:=WT w;rw[Sy v,Sy w];by_cases h:a<=b
  ·obtain⟨c,j,g,y⟩:=NZ (E:=E) (K:=K) o q t d (i+1) k (by omega) (by omega);have l:¬b<a:=by omega
   have e:Wn (a::m.drop (i+1)) (b::n.drop (i+1))=Wn (m.drop (i+1)) (n.drop (i+1)):=by simp only[Wn,decide_eq_true h,Bool.true_and]
   rw[e];refine⟨c,j,?_,y⟩;rw[Xb];simp only[Xo,Xr,reduceIte,Nat.reduceEqDiff,Yr,x115_1,f,x,r,s,u,Xc,o,q,l];exact g
  ·have l:b<a:=by omega
   have e:Wn (a::m.drop (i+1)) (b::n.drop (i+1))=false:=by simp only[Wn,decide_eq_false h,Bool.false_and]
   rw[e];refine⟨.ret,?_⟩;apply VO
   ·rw[Xb];simp only[Xo,Xr,reduceIte,Nat.reduceEqDiff,Yr,x115_1,f,r,s,u,Xc,o,q,l];rfl
   ·exact .inr ⟨rfl,rfl,by simp only[Xo,reduceIte]⟩
theorem bD {B:Xs}(g:Std B){m n:P'}(a:m.length=8)(b:n.length=8):Xu B 115 [.agg (mo m),.agg (mo n)] (.one (.bool (Wn m n))):=by
 refine Xu.of (g.Wa _ _ rfl) ((XS.ge 9).mono fun E K j=> ?_);obtain⟨i,h,c,d⟩:=NZ (E:=E) (K:=K) a b 73 8 0 K (by omega) (by omega);rw[Yh,Yh]at d;rcases d with⟨rfl,e⟩|⟨rfl,e,f⟩
 ·rw[e];simp only[Xo,Xr,reduceIte,Nat.reduceEqDiff,Nat.reduceLeDiff,Nat.reduceAdd,x115,Wj,Xc,a,b,c]
 ·rw[e];simp only[Xo,Xr,reduceIte,Nat.reduceEqDiff,Nat.reduceLeDiff,Nat.reduceAdd,x115,Wj,Xc,a,b,c,f]
theorem ig {B:Xs}(l:Std B){m n:P'}(p:XD m)(q:XD n):Xu B 108 [.agg (mo m),.agg (mo n)] (.agg (mo (XJ m n))):=by
 obtain⟨r,h⟩:=p;obtain⟨s,j⟩:=q;obtain⟨a,b,c,d,e,f,g,i,rfl⟩:=Sw r;obtain⟨t,u,v,x,A,I,J,V,rfl⟩:=Sw s;simp only[Zj,ZV,or_false,forall_eq_or_imp,forall_eq]at h j;obtain⟨M,N,O,P,Q,S,T,U⟩:=h;obtain⟨W,X,Y,Z,ke,kf,kg,ki⟩:=j;refine Xu.of (l.Wa _ _ rfl) (((XS.ge 9)).mono fun E K L=> ?_);obtain⟨k,rfl⟩:∃k,K=k+9:=⟨K-9,by omega⟩;simp only[XJ,ZC,YF,mo,Zt,ZN];obtain⟨w,lK,oD,oS,oR,z,y,e1,e2,C,D,F,G,H,o,R⟩:=SH;simp(decide:=true)only[TD,R,o,Xr,reduceIte,Nat.reduceAdd,Nat.reduceMul,x108,x108_1,w1,Ch]
theorem rj {B:Xs}(l:Std B){m n:P'}(p:XD m)(q:XD n):Xu B 63 [.agg (mo m),.agg (mo n)] (.agg (mo (XJ m n))):=by
 obtain⟨r,h⟩:=p;obtain⟨s,j⟩:=q;obtain⟨a,b,c,d,e,f,g,i,rfl⟩:=Sw r;obtain⟨t,u,v,x,A,I,J,V,rfl⟩:=Sw s;simp only[Zj,ZV,or_false,forall_eq_or_imp,forall_eq]at h j;obtain⟨M,N,O,P,Q,S,T,U⟩:=h;obtain⟨W,X,Y,Z,ke,kf,kg,ki⟩:=j;refine Xu.of (l.Wa _ _ rfl) (((XS.ge 9)).mono fun E K L=> ?_);obtain⟨k,rfl⟩:∃k,K=k+9:=⟨K-9,by omega⟩;simp only[XJ,ZC,YF,mo,Zt,ZN];obtain⟨w,lK,oD,oS,oR,z,y,e1,e2,C,D,F,G,H,o,R⟩:=SH;simp(decide:=true)only[TD,R,o,Xr,reduceIte,Nat.reduceAdd,Nat.reduceMul,x63,x63_1,w1,Ch]
theorem yO {B:Xs}(l:Std B){m n:P'}(p:XD m)(q:XD n):Xu B 87 [.agg (mo m),.agg (mo n)] (.agg (mo (QW m n))):=by
 obtain⟨r,h⟩:=p;obtain⟨s,j⟩:=q;obtain⟨a,b,c,d,e,f,g,i,rfl⟩:=Sw r;obtain⟨t,u,v,x,A,I,J,V,rfl⟩:=Sw s;simp only[Zj,ZV,or_false,forall_eq_or_imp,forall_eq]at h j;obtain⟨M,N,O,P,Q,S,T,U⟩:=h;obtain⟨W,X,Y,Z,ke,kf,kg,ki⟩:=j;refine Xu.of (l.Wa _ _ rfl) (((XS.ge 9)).mono fun E K L=> ?_);obtain⟨k,rfl⟩:∃k,K=k+9:=⟨K-9,by omega⟩;simp only[QW,ZC,YF,mo,Zt,ZN];obtain⟨w,lK,oD,oS,oR,z,y,e1,e2,C,D,F,G,H,o,R⟩:=SH;simp(decide:=true)only[TD,R,o,Xr,reduceIte,Nat.reduceAdd,Nat.reduceMul,x87,x87_1,w1,Cg]
theorem dA {B:Xs}(l:Std B){m n:P'}(p:XD m)(q:XD n):Xu B 97 [.agg (mo m),.agg (mo n)] (.agg (mo (QW m n))):=by
 obtain⟨r,h⟩:=p;obtain⟨s,j⟩:=q;obtain⟨a,b,c,d,e,f,g,i,rfl⟩:=Sw r;obtain⟨t,u,v,x,A,I,J,V,rfl⟩:=Sw s;simp only[Zj,ZV,or_false,forall_eq_or_imp,forall_eq]at h j;obtain⟨M,N,O,P,Q,S,T,U⟩:=h;obtain⟨W,X,Y,Z,ke,kf,kg,ki⟩:=j;refine Xu.of (l.Wa _ _ rfl) (((XS.ge 9)).mono fun E K L=> ?_);obtain⟨k,rfl⟩:∃k,K=k+9:=⟨K-9,by omega⟩;simp only[QW,ZC,YF,mo,Zt,ZN];obtain⟨w,lK,oD,oS,oR,z,y,e1,e2,C,D,F,G,H,o,R⟩:=SH;simp(decide:=true)only[TD,R,o,Xr,reduceIte,Nat.reduceAdd,Nat.reduceMul,x97,x97_1,w1,Cg]
theorem OA {B:Xs}(r:Std B){m n:P'}(v:XD m)(w:XD n)(j:Wn n m=true):Xu B 136 [.agg (mo m),.agg (mo n)] (.X9 [.agg (mo (XQ m n)),.one (.bool true)]):=by
 have z:=PM r w.1 v.1;rw[j]at z;have l:=j;clear j;obtain⟨U,o⟩:=v;obtain⟨V,p⟩:=w;obtain⟨a,b,c,d,e,f,g,i,rfl⟩:=Sw U;obtain⟨W,X,Y,d',e',f',g',i',rfl⟩:=Sw V;simp only[Zj,ZV,or_false,forall_eq_or_imp,forall_eq]at o p;obtain⟨M,N,O,j,P,Q,S,T⟩:=o;obtain⟨ka,kb,kc,kd,ke,kf,kg,ki⟩:=p;simp only[Wn,Zs,decide_eq_true_eq,and_true]at l;obtain⟨A,C,D,F,G,H,I,J⟩:=l;refine Xu.of (r.Wa _ _ rfl) (((XS.ge 9).and (z.Xk.and r.Xk)).mono fun E K ⟨hK,u,s⟩=> ?_);obtain⟨t,rfl⟩:∃t,K=t+9:=⟨K-9,by omega⟩;simp only[XQ,ZC,YF,mo,Zt,ZN]at u⊢;have q:∀{x y:Nat},y<=x->x<=65535->Xe .i64 (.ofNat x-.ofNat y)=.ofNat (x-y):=fun h k=>Wi h (by omega)
 obtain⟨Z,lK,oD,oS,oR,dS,dD,e1,e2,e3,e4,e5,e6,e7,L,R⟩:=SH;simp(decide:=true)only[TD,R,L,Xr,reduceIte,Nat.reduceAdd,Nat.reduceMul,x136,x136_1,w1,s,X4,u,q A M,q C N,q D O,q F j,q G P,q H Q,q I S,q J T]
theorem bC {B:Xs}(r:Std B){m n:P'}(v:XD m)(w:XD n)(j:Wn n m=true):Xu B 62 [.agg (mo m),.agg (mo n)] (.X9 [.agg (mo (XQ m n)),.one (.bool true)]):=by
 have z:=bD r w.1 v.1;rw[j]at z;have l:=j;clear j;obtain⟨U,o⟩:=v;obtain⟨V,p⟩:=w;obtain⟨a,b,c,d,e,f,g,i,rfl⟩:=Sw U;obtain⟨W,X,Y,d',e',f',g',i',rfl⟩:=Sw V;simp only[Zj,ZV,or_false,forall_eq_or_imp,forall_eq]at o p;obtain⟨M,N,O,j,P,Q,S,T⟩:=o;obtain⟨ka,kb,kc,kd,ke,kf,kg,ki⟩:=p;simp only[Wn,Zs,decide_eq_true_eq,and_true]at l;obtain⟨A,C,D,F,G,H,I,J⟩:=l;refine Xu.of (r.Wa _ _ rfl) (((XS.ge 9).and (z.Xk.and r.Xk)).mono fun E K ⟨hK,u,s⟩=> ?_);obtain⟨t,rfl⟩:∃t,K=t+9:=⟨K-9,by omega⟩;simp only[XQ,ZC,YF,mo,Zt,ZN]at u⊢;have q:∀{x y:Nat},y<=x->x<=65535->Xe .i64 (.ofNat x-.ofNat y)=.ofNat (x-y):=fun h k=>Wi h (by omega)
 obtain⟨Z,lK,oD,oS,oR,dS,dD,e1,e2,e3,e4,e5,e6,e7,L,R⟩:=SH;simp(decide:=true)only[TD,R,L,Xr,reduceIte,Nat.reduceAdd,Nat.reduceMul,x62,x62_1,w1,s,X4,u,q A M,q C N,q D O,q F j,q G P,q H Q,q I S,q J T]
theorem yT {B:Xs}(b:Std B){m n:P'}(d:XD m)(f:XD n)(i:Wn n m=false):Xu B 62 [.agg (mo m),.agg (mo n)] (.X9 [.agg (mo [0,0,0,0,0,0,0,0]),.one (.bool false)]):=by
 have g:=bD b f.1 d.1;rw[i]at g;refine Xu.of (b.Wa _ _ rfl) ((g.Xk.and b.Xk).mono fun E K ⟨h,c⟩=> ?_);have j:=d.1;have k:=f.1;have l:(Xw m).take 8=Xw m:=Zd (by rw[Xc];omega);have o:(Xw n).take 8=Xw n:=Zd (by rw[Xc];omega);simp only[mo,Zt,ZN];have a:=h;simp only[Xo,Xr,reduceIte,Nat.reduceEqDiff,Nat.reduceLeDiff,Nat.reduceAdd,x62,show(List.map (fun e=>PL.int IntKind.i64 (Int.ofNat e)) m).map DL.p=Xw m from Wj m,show(List.map (fun e=>PL.int IntKind.i64 (Int.ofNat e)) n).map DL.p=Xw n from Wj n,Xc,j,k,l,o,Qr,Qp,c,X4,a]
end Go.Proofs.YtidginchkjhobaaGreat
namespace Go.Num
def wt:U'->P'->Int
 |r::rs,e::es=>r*(e:Int)+wt rs es
 |_,_=>0
def WX:M'->P'->P'->Int
 |[],m,n=>WJ m n
 |r::o,m,n=>if wt r m<wt r n then .negSucc 0 else if wt r n<wt r m then .ofNat 1 else WX o m n
theorem NP:∀(o:M') (m:P'),WX o m m=.ofNat 0
 |[],m=>Qa m
 |r::o,m=>by simp only[WX,Int.lt_irrefl,if_false];exact NP o m
def vO (r:U'):Prop:=r.length=8/\∀w∈r,-1000<=w/\w<=1000
def Vt (o:M'):Prop:=∀r∈o,vO r
theorem Cd {w:Int}{e:Int}{W X:Int}(f: -W<=w)(g:w<=W)(i: -X<=e)(j:e<=X)(c:0<=W)(d:0<=X): -(W*X)<=w*e/\w*e<=W*X:=by
 have a:w.natAbs<=W.natAbs:=by omega
 have b:e.natAbs<=X.natAbs:=by omega
 have:=ZT a b;rw[<-Yq,<-Yq]at this;have h:0<=W*X:=Int.mul_nonneg c d;omega
end Go.Num
namespace Go.Proofs.YtidginchkjhobaaGreat
open Go.Ev Go.Num
theorem cL {z:Int}(b: -9223372036854775808<=z)(a:z<9223372036854775808):Xe .i64 z=z:=by
 cases z with
 |ofNat n=>exact wrap_i64 (by simp only[Zz]at a;omega)
 |negSucc n=>
  show UU .i64 (WR .i64 (.negSucc n))=_;have c:n<9223372036854775808:=by omega
  have e:WR .i64 (.negSucc n)=18446744073709551615-n:=by
   show(18446744073709551616-1)-n%18446744073709551616=_;rw[Zh (by omega)]
  rw[e];show(bif true&&Nat.ble (18446744073709551616 / 2) (18446744073709551615-n)then Int.negSucc (18446744073709551616-(18446744073709551615-n)-1)else _)=_;have h:Nat.ble (18446744073709551616 / 2) (18446744073709551615-n)=true:=Py (by omega);rw[h,Bool.and_self,cond_true];congr 1;omega
theorem TO (x y:Int):SR x y=decide (x<y):=by
 cases x with
 |ofNat a=>cases y with
  |ofNat b=>rw[ay];congr 1;simp
  |negSucc b=>show false=_;rw[decide_eq_false (by simp only[Zz];omega)]
 |negSucc a=>cases y with
  |ofNat b=>show true=_;rw[decide_eq_true (by simp only[Zz];omega)]
  |negSucc b=>
   show Nat.blt b a=_;rw[cu];congr 1;simp only[eq_iff_iff];omega
def Vd (r:U'):N':=r.map fun z=>.int .i64 z
def Sk (r:U'):Y':=r.map fun z=>.p (.int .i64 z)
theorem ah (r:U'):(Vd r).map DL.p=Sk r:=by simp[Vd,Sk]
theorem UH (r:U'):(Sk r).length=r.length:=by simp[Sk]
theorem bn (r:U'):(Vd r).length=r.length:=by simp[Vd]
theorem lM {r:U'}{i:Nat}{w:Int}(h:r[i]? =some w):(Sk r).drop i=.p (.int .i64 w)::Sk (r.drop (i+1)):=by
 obtain⟨a,rfl⟩:=Zf.1 h;rw[Sk,<-List.map_drop,Z5 a];rfl
theorem bT (n:Nat)(h:HF):∀(r:U'),Xv (XC n h) (Sk r)=some (Vd r)
 |[]=>rfl
 |e::r=>by
  have:=bT n h r;simp only[Sk,Vd]at this;simp only[Sk,Vd,Zt,Xv,mJ,this]
theorem bS (n:Nat)(h:HF):∀(r:U'),(Sk r).flatMap (Vk n h)=[]
 |[]=>rfl
 |e::r=>by
  have:=bS n h r;simp only[Sk]at this;simp only[Sk,Zt,List.flatMap_cons,mG,this,ZE]
def TR (l:PL)(o:M'):Prop:=Sl l (o.map Vd)
theorem mY {r:U'}{i:Nat}{w:Int}(h:r[i]? =some w):r.drop i=w::r.drop (i+1):=by
 obtain⟨a,rfl⟩:=Zf.1 h;exact Z5 a
theorem eB {E:Xa}{K:Nat}{r:U'}{m:P'}(c:vO r)(g:XD m)(t u:Nat){M:Int}(B:M=65535000):∀(d i k:Nat) (a:Int),i+d=8->d<k->-((i:Int)*M)<=a->a<=(i:Int)*M->
  ∃f,Xb E K 0 [2,3,5,6] x135_1 k ⟨[(2,.one (.ptr 0 0 0 0)),(3,.one (.ptr 1 0 0 0)),(5,.one (.p (.int .i64 a))),(6,LB i)],[⟨false,0,8,[Sk r],false,t⟩,⟨false,0,8,[Xw m],false,u⟩]⟩=some (.exit 0,⟨f,[⟨false,0,8,[Sk r],false,t⟩,⟨false,0,8,[Xw m],false,u⟩]⟩)/\Xh f 5=some (.one (.p (.int .i64 (a+wt (r.drop i) (m.drop i)))))
 |_,_,0,_,_,h,_,_=>by omega
 |0,i,k+1,a,hi,_,_,_=>by
  obtain rfl:i=8:=by omega
  rw[YL (by rw[c.1];omega),show wt [] (m.drop 8)=0 from rfl,Int.add_zero];apply VO
  ·rw[Xb];simp only[Xo,Xr,reduceIte,Nat.reduceEqDiff,x135_1,Zv];rfl
  ·simp only[Xo,reduceIte,Nat.reduceEqDiff]
 |d+1,i,k+1,a,hi,hk,h1,h2=>by
  obtain⟨w,q⟩:∃w,r[i]? =some w:=⟨_,Zg (by rw[c.1];omega)⟩;obtain⟨e,n⟩:∃e,m[i]? =some e:=⟨_,Zg (by rw[g.1];omega)⟩;have s:=c.2 w (Zk q);have L:=g.2 e (Zk n);obtain⟨I,J⟩:=Cd (w:=w) (e:=(e:Int)) (W:=1000) (X:=65535) s.1 s.2 (by omega) (by omega) (by decide) (by decide);have o:i<8:=by omega
  have b:i<=8:=by omega
  have v:Xe .i64 (.ofNat (i+1))=.ofNat (i+1):=wrap_i64 (by omega);have j: -(((i+1:Nat):Int)*M)<=a+w*Int.ofNat e:=by
   rw[Int.natCast_add,Int.add_mul];simp only[Zz];omega
  have l:a+w*Int.ofNat e<=((i+1:Nat):Int)*M:=by
   rw[Int.natCast_add,Int.add_mul];simp only[Zz];omega
  have C:(i:Int)*M<=8*M:=Int.mul_le_mul_of_nonneg_right (by omega) (by omega);have x:Xe .i64 (w*Int.ofNat e)=w*Int.ofNat e:=cL (by simp only[Zz];omega) (by simp only[Zz];omega);have y:Xe .i64 (a+w*Int.ofNat e)=a+w*Int.ofNat e:=cL (by simp only[Zz];omega) (by simp only[Zz];omega);obtain⟨f,z,A⟩:=eB (E:=E) (K:=K) c g t u B d (i+1) k (a+w*Int.ofNat e) (by omega) (by omega) j l;rw[mY q,Sy n];refine⟨f,?_,by rw[A];simp only[wt,Zz];rw[Int.add_assoc]⟩;have F:=lM q;have G:=WT n;have H:=c.1;have D:=g.1;rw[Xb];simp only[Xo,Xr,reduceIte,Nat.reduceEqDiff,Yr,x135_1,o,b,v,x,y,F,G,UH,Xc,H,D];exact z
theorem gv {B:Xs}(e:Std B){r:U'}{m:P'}(d:vO r)(c:XD m):Xu B 135 [.agg (Vd r),.agg (mo m)] (.one (.int .i64 (wt r m))):=by
 refine Xu.of (e.Wa _ _ rfl) ((XS.ge 9).mono fun E K i=> ?_);obtain⟨h,a,b⟩:=eB (E:=E) (K:=K) d c 69 73 rfl 8 0 K 0 (by omega) (by omega) (by simp) (by simp);rw[Yh,Yh,Int.zero_add]at b;have g:=d.1;have f:=c.1;rw[show(0:Int)=Int.ofNat 0 from rfl]at a;simp only[Xo,Xr,reduceIte,Nat.reduceEqDiff,Nat.reduceLeDiff,Nat.reduceAdd,x135,Wj,Xc,ah,UH,g,f,a,b]
theorem iw {E:Xa}{K:Nat}{l:PL}{o:M'}{m n:P'}(g:E.mode=md)(z:TR l o)(N:Vt o)(L:XD m)(M:XD n)(B:o.length<1000000)(u:Nat)
  (t:∀r∈o,E.pure 135 [.agg (Vd r),.agg (mo m)]=some (.one (.int .i64 (wt r m)))) (v:∀r∈o,E.pure 135 [.agg (Vd r),.agg (mo n)]=some (.one (.int .i64 (wt r n)))):∀(d i k:Nat),i+d=o.length->d<k->
  ∃s j,Xb E K 0 [0,4,5,7] x85_1 k ⟨[(0,.one (.p l)),(4,.one (.ptr 0 0 0 0)),(5,.one (.ptr 1 0 0 0)),(7,LB i)],[⟨false,0,8,[Xw m],false,u⟩,⟨false,0,8,[Xw n],false,u⟩]⟩=some (s,⟨j,[⟨false,0,8,[Xw m],false,u⟩,⟨false,0,8,[Xw n],false,u⟩]⟩)/\
   ((s=.exit 0/\WX (o.drop i) m n=WJ m n/\Xh j 4=some (.one (.ptr 0 0 0 0))/\Xh j 5=some (.one (.ptr 1 0 0 0)))\/(s=.ret/\Xh j 6=some (.one (.p (.int .i64 (WX (o.drop i) m n))))))
 |_,_,0,_,h=>by omega
 |0,i,k+1,hi,_=>by
  have b:¬i<o.length:=by omega
  have a:=z.len;rw[ZP]at a;refine⟨.exit 0,?_⟩;rw[YL (by omega)];apply VO
  ·rw[Xb];simp only[Xo,Xr,reduceIte,Nat.reduceEqDiff,x85_1,a,b];rfl
  ·exact .inl ⟨rfl,rfl,by simp only[Xo,reduceIte,Nat.reduceEqDiff],by simp only[Xo,reduceIte,Nat.reduceEqDiff]⟩
 |d+1,i,k+1,hi,hk=>by
  have b:i<o.length:=by omega
  have a:=z.len;rw[ZP]at a;obtain⟨r,C⟩:∃r,o[i]? =some r:=⟨_,Zg b⟩;have f:=Zk C;have y:=(N r f).1;have D:=L.1;have F:=M.1;have e:=fun(S:HF) (T:IntKind)=>z.idx (h:=S) (k:=T) (sz:=8) (c:=Vd r) (i:=i) (by rw[ZD,C];rfl) (by rw[bn,y])
  have w1:=t r f;have J:=v r f;have P:Xe .i64 (.ofNat (i+1))=.ofNat (i+1):=wrap_i64 (by omega);have O:o.drop i=r::o.drop (i+1):=by
   obtain⟨q,rfl⟩:=Zf.1 C;exact Z5 q
  have G:(Xw m).take 8=Xw m:=Zd (by rw[Xc];omega);have H:(Xw n).take 8=Xw n:=Zd (by rw[Xc];omega);have I:(Sk r).take 8=Sk r:=Zd (by rw[UH];omega);rw[O];simp only[WX];by_cases q:wt r m<wt r n
  ·rw[if_pos q];have w:SR (wt r m) (wt r n)=true:=by rw[TO,decide_eq_true q]
   refine⟨.ret,?_⟩;apply VO
   ·rw[Xb];simp only[Xo,Xr,reduceIte,Nat.reduceEqDiff,Nat.reduceLeDiff,x85_1,a,b,e,Xc,ah,UH,y,D,F,G,H,I,Qr,Qp,bT,bS,g,X4,w1,J,w];rfl
   ·exact .inr ⟨rfl,by simp only[Xo,reduceIte,Nat.reduceEqDiff]⟩
  ·rw[if_neg q];have w:SR (wt r m) (wt r n)=false:=by rw[TO,decide_eq_false q]
   by_cases x:wt r n<wt r m
   ·rw[if_pos x];have A:SR (wt r n) (wt r m)=true:=by rw[TO,decide_eq_true x]
    refine⟨.ret,?_⟩;apply VO
    ·rw[Xb];simp only[Xo,Xr,reduceIte,Nat.reduceEqDiff,Nat.reduceLeDiff,x85_1,a,b,e,Xc,ah,UH,y,D,F,G,H,I,Qr,Qp,bT,bS,g,X4,w1,J,w,A];rfl
    ·exact .inr ⟨rfl,by simp only[Xo,reduceIte,Nat.reduceEqDiff]⟩
   ·rw[if_neg x];have A:SR (wt r n) (wt r m)=false:=by rw[TO,decide_eq_false x]
    obtain⟨s,j,Q,R⟩:=iw (K:=K) g z N L M B u t v d (i+1) k (by omega) (by omega);refine⟨s,j,?_,R⟩;rw[Xb];simp only[Xo,Xr,reduceIte,Nat.reduceEqDiff,Nat.reduceLeDiff,x85_1,a,b,e,Xc,ah,UH,y,D,F,G,H,I,Qr,Qp,bT,bS,g,X4,w1,J,w,A,P];exact Q
theorem Ux {B:Xs}{c:Type}{p:c->Xa->Nat->Prop}:∀{l:List c},(∀x∈l,XS B (p x))->XS B fun E K=>∀x∈l,p x E K
 |[],_=>XS.of fun _ _ _ h=>by cases h
 |a::l,h=>((h a (Zc ..)).and (Ux fun x b=>h x (Zb _ b))).mono fun E K ⟨d,e⟩ x b=>by
  rcases Zj.1 b with rfl|b
  ·exact d
  ·exact e x b
theorem lP {B:Xs}(b:Std B){l:PL}{o:M'}{m n:P'}(w:TR l o)(f:Vt o)(d:XD m)(e:XD n)(g:o.length<1000000):Xu B 85 [.one l,.agg (mo m),.agg (mo n)] (.one (.int .i64 (WX o m n))):=by
 have i:XS B fun E _=>∀r∈o,E.pure 135 [.agg (Vd r),.agg (mo m)]=some (.one (.int .i64 (wt r m))):=Ux fun r h=>(gv b (f r h) d).Xk
 have j:XS B fun E _=>∀r∈o,E.pure 135 [.agg (Vd r),.agg (mo n)]=some (.one (.int .i64 (wt r n))):=Ux fun r h=>(gv b (f r h) e).Xk
 have v:=bo b d.1 e.1;refine Xu.of (b.Wa _ _ rfl) ((i.and (j.and (v.Xk.and (b.Xk.and (XS.ge (o.length+1)))))).mono fun E K ⟨e1,e2,s,c,C⟩=> ?_);obtain⟨A,z,k,a⟩:=iw (K:=K) c w f d e g 73 e1 e2 o.length 0 K (by omega) (by omega);rw[Yh]at a;have p:=d.1;have q:=e.1;have x:(Xw m).take 8=Xw m:=Zd (by rw[Xc];omega);have y:(Xw n).take 8=Xw n:=Zd (by rw[Xc];omega);rcases a with⟨rfl,a,t,u⟩|⟨rfl,a⟩
 ·rw[a];simp only[Xo,Xr,reduceIte,Nat.reduceEqDiff,Nat.reduceLeDiff,Nat.reduceAdd,x85,Wj,Xc,p,q,x,y,Qr,Qp,c,X4,k,t,u,s]
 ·simp only[Xo,Xr,reduceIte,Nat.reduceEqDiff,Nat.reduceLeDiff,Nat.reduceAdd,x85,Wj,Xc,p,q,k,a]
end Go.Proofs.YtidginchkjhobaaGreat
namespace Go.Num
def IG:U'->P'->P'->Int
 |r::rs,a::as1,b::bs=>r*((a:Int)-(b:Int))+IG rs as1 bs
 |_,_,_=>0
theorem AI:∀{r:U'} {m n:P'},r.length=m.length->m.length=n.length->IG r m n=wt r m-wt r n
 |[],[],[],_,_=>rfl
 |[],_::_,_,h,_=>by simp at h
 |_::_,[],_,h,_=>by simp at h
 |_,[],_::_,_,h=>by simp at h
 |_,_::_,[],_,h=>by simp at h
 |w::r,a::m,b::n,h1,h2=>by
  have c:=AI (r:=r) (m:=m) (n:=n) (by simpa using h1) (by simpa using h2);simp only[IG,wt,c,Int.mul_sub];omega
end Go.Num
namespace Go.Proofs.YtidginchkjhobaaGreat
open Go.Ev Go.Num
def vY (l:PL)(len i:Nat)(acc:Int)(r:U')(j:Nat):List (Nat×DV):=[(4,.one (.ptr 0 0 0 0)),(5,.one (.ptr 1 0 0 0)),(9,.one (.p (.int .i64 acc))),(15,.one (.p l)),(16,LB len),(17,LB i),(21,.agg (Sk r)),(22,LB j)]
theorem bz {E:Xa}{K:Nat}{l:PL}{len ii:Nat}{r:U'}{m n:P'}(j:vO r)(o:XD m)(q:XD n){M:Int}(O:M=65535000)(u:Nat)(G:V'):∀(d i k:Nat) (a:Int),i+d=8->d<k->-((i:Int)*M)<=a->a<=(i:Int)*M->
  ∃b,Xb E K 0 [4,5,9,15,16,17,21,22] x114_1 k ⟨vY l len ii a r i,⟨false,0,8,[Xw m],false,u⟩::⟨false,0,8,[Xw n],false,u⟩::G⟩=some (.exit 2,⟨b,⟨false,0,8,[Xw m],false,u⟩::⟨false,0,8,[Xw n],false,u⟩::G⟩)/\(Xh b 4=some (.one (.ptr 0 0 0 0))/\Xh b 5=some (.one (.ptr 1 0 0 0))/\Xh b 9=some (.one (.p (.int .i64 (a+IG (r.drop i) (m.drop i) (n.drop i)))))/\Xh b 15=some (.one (.p l))/\Xh b 16=some (LB len)/\Xh b 17=some (LB ii))
 |_,_,0,_,_,h,_,_=>by omega
 |0,i,k+1,a,hi,_,_,_=>by
  obtain rfl:i=8:=by omega
  rw[YL (by rw[j.1];omega),show IG [] (m.drop 8) (n.drop 8)=0 from rfl,Int.add_zero];unfold vY;apply VO
  ·rw[Xb];simp only[Xo,Xr,reduceIte,Nat.reduceEqDiff,x114_1,Zv];rfl
  ·simp only[Xo,reduceIte,Nat.reduceEqDiff,and_self]
 |d+1,i,k+1,a,hi,hk,h1,h2=>by
  obtain⟨w,z⟩:∃w,r[i]? =some w:=⟨_,Zg (by rw[j.1];omega)⟩;obtain⟨e,x⟩:∃e,m[i]? =some e:=⟨_,Zg (by rw[o.1];omega)⟩;obtain⟨f,y⟩:∃f,n[i]? =some f:=⟨_,Zg (by rw[q.1];omega)⟩;have A:=j.2 w (Zk z);have be:=o.2 e (Zk x);have bf:=q.2 f (Zk y);obtain⟨Z,b2⟩:=Cd (w:=w) (e:=(e:Int)-(f:Int)) (W:=1000) (X:=65535) A.1 A.2 (by omega) (by omega) (by decide) (by decide);have c:i<8:=by omega
  have g:i<=8:=by omega
  have F:Xe .i64 (.ofNat (i+1))=.ofNat (i+1):=wrap_i64 (by omega);have t: -(((i+1:Nat):Int)*M)<=a+w*(Int.ofNat e-Int.ofNat f):=by
   rw[Int.natCast_add,Int.add_mul];simp only[Zz];omega
  have v:a+w*(Int.ofNat e-Int.ofNat f)<=((i+1:Nat):Int)*M:=by
   rw[Int.natCast_add,Int.add_mul];simp only[Zz];omega
  have P:(i:Int)*M<=8*M:=Int.mul_le_mul_of_nonneg_right (by omega) (by omega);have D:Xe .i64 (Int.ofNat e-Int.ofNat f)=Int.ofNat e-Int.ofNat f:=cL (by simp only[Zz];omega) (by simp only[Zz];omega);have H:Xe .i64 (w*(Int.ofNat e-Int.ofNat f))=w*(Int.ofNat e-Int.ofNat f):=cL (by simp only[Zz];omega) (by simp only[Zz];omega);have I:Xe .i64 (a+w*(Int.ofNat e-Int.ofNat f))=a+w*(Int.ofNat e-Int.ofNat f):=cL (by simp only[Zz];omega) (by simp only[Zz];omega);obtain⟨b,B,J,s,L,N⟩:=bz (E:=E) (K:=K) (l:=l) (len:=len) (ii:=ii) j o q O u G d (i+1) k (a+w*(Int.ofNat e-Int.ofNat f)) (by omega) (by omega) t v;rw[mY z,Sy x,Sy y];refine⟨b,?_,J,s,by rw[L];simp only[IG,Zz];rw[Int.add_assoc],N⟩;have S:=lM z;have T:=WT x;have U:=WT y;have Y:=j.1;have Q:=o.1;have R:=q.1;have V:∀C,Sr 8 false 1 [.agg (Sk r),.one (.p (.int C (.ofNat i)))]=some ⟨.one (.p (.int .i64 w)),[],[],[]⟩:=by
   intro C;simp only[Sr,Yr,N6 c,Py (show i<=(Sk r).length by rw[UH,Y];omega),Bool.and_self,cond_true,S,Sa,cond_false,Va.pure]
  unfold vY at B⊢;rw[Xb];simp only[Xo,Xr,reduceIte,Nat.reduceEqDiff,Yr,x114_1,c,g,D,F,H,I,T,U,V,Xc,Q,R];exact B
theorem iI {E:Xa}{K:Nat}{l:PL}{o:M'}{m n:P'}(U:TR l o)(S:Vt o)(C:XD m)(D:XD n)(F:o.length<1000000)(Y:9<=K)(u:Nat):∀(d i k:Nat) (G:V'),i+d=o.length->d<k->
  ∃s b A,Xb E K 0 [4,5,15,16,17] x114_2 k ⟨[(4,.one (.ptr 0 0 0 0)),(5,.one (.ptr 1 0 0 0)),(15,.one (.p l)),(16,LB o.length),(17,LB i)],⟨false,0,8,[Xw m],false,u⟩::⟨false,0,8,[Xw n],false,u⟩::G⟩=some (s,⟨b,⟨false,0,8,[Xw m],false,u⟩::⟨false,0,8,[Xw n],false,u⟩::A⟩)/\
   ((s=.exit 0/\WX (o.drop i) m n=WJ m n/\Xh b 4=some (.one (.ptr 0 0 0 0))/\Xh b 5=some (.one (.ptr 1 0 0 0)))\/(s=.ret/\Xh b 6=some (.one (.p (.int .i64 (WX (o.drop i) m n))))))
 |_,_,0,_,_,h=>by omega
 |0,i,k+1,G,hi,_=>by
  have e:¬i<o.length:=by omega
  rw[YL (by omega)];have :∃b,Xb E K 0 [4,5,15,16,17] x114_2 (k+1) ⟨[(4,.one (.ptr 0 0 0 0)),(5,.one (.ptr 1 0 0 0)),(15,.one (.p l)),(16,LB o.length),(17,LB i)],⟨false,0,8,[Xw m],false,u⟩::⟨false,0,8,[Xw n],false,u⟩::G⟩=some (.exit 0,⟨b,⟨false,0,8,[Xw m],false,u⟩::⟨false,0,8,[Xw n],false,u⟩::G⟩)/\Xh b 4=some (.one (.ptr 0 0 0 0))/\Xh b 5=some (.one (.ptr 1 0 0 0)):=by
   apply VO
   ·rw[Xb];simp only[Xo,Xr,reduceIte,Nat.reduceEqDiff,x114_2,e];rfl
   ·simp only[Xo,reduceIte,Nat.reduceEqDiff,and_self]
  obtain⟨b,g,j,X⟩:=this;exact⟨.exit 0,b,G,g,.inl ⟨rfl,rfl,j,X⟩⟩
 |d+1,i,k+1,G,hi,hk=>by
  have e:i<o.length:=by omega
  obtain⟨r,H⟩:∃r,o[i]? =some r:=⟨_,Zg e⟩;have t:=Zk H;have R:=S r t;have w:=R.1;have T:=C.1;have n8:=D.1;have f:=fun(Z:HF) (kd:IntKind)=>U.idx (h:=Z) (k:=kd) (sz:=8) (c:=Vd r) (i:=i) (by rw[ZD,H];rfl) (by rw[bn,w])
  have W:Xe .i64 (.ofNat (i+1))=.ofNat (i+1):=wrap_i64 (by omega);have V:o.drop i=r::o.drop (i+1):=by
   obtain⟨y,rfl⟩:=Zf.1 H;exact Z5 y
  have O:(Sk r).take 8=Sk r:=Zd (by rw[UH];omega);have t4:(Sk r).drop 8=[]:=Zo (by rw[UH];omega);obtain⟨T1,v,I,q,z,J,L,N⟩:=bz (E:=E) (K:=K) (l:=l) (len:=o.length) (ii:=i) R C D (M:=65535000) rfl u (G++[⟨false,0,8,[Sk r],false,69⟩]) 8 0 K 0 (by omega) (by omega) (by simp) (by simp);rw[Yh,Yh,Yh,Int.zero_add,AI (by rw[w,T]) (by rw[T,n8])]at z;unfold vY at v;rw[show(0:Int)=Int.ofNat 0 from rfl]at v;have P:Wc (Sk r)=true:=by
   have :∀r:U',Wc (Sk r)=true:=by
    intro r;induction r with
    |nil=>rfl
    |cons a r ih=>exact ih
   exact this r
  rw[V];simp only[WX];by_cases y:wt r m<wt r n
  ·rw[if_pos y];have x:SR (wt r m-wt r n) (.ofNat 0)=true:=by rw[TO,decide_eq_true];simp only[Zz];omega
   have :∃b,Xb E K 0 [4,5,15,16,17] x114_2 (k+1) ⟨[(4,.one (.ptr 0 0 0 0)),(5,.one (.ptr 1 0 0 0)),(15,.one (.p l)),(16,LB o.length),(17,LB i)],⟨false,0,8,[Xw m],false,u⟩::⟨false,0,8,[Xw n],false,u⟩::G⟩=some (.ret,⟨b,⟨false,0,8,[Xw m],false,u⟩::⟨false,0,8,[Xw n],false,u⟩::(G++[⟨false,0,8,[Sk r],false,69⟩])⟩)/\Xh b 6=some (.one (.p (.int .i64 (.negSucc 0)))):=by
    apply VO
    ·rw[Xb];simp only[Xo,Xr,VR,reduceIte,Nat.reduceEqDiff,Nat.reduceLeDiff,Nat.reduceAdd,x114_2,e,f,ah,UH,w,O,P,v,I,q,z,J,L,N,x];rfl
    ·simp only[Xo,reduceIte,Nat.reduceEqDiff]
   obtain⟨b,g,j⟩:=this;exact⟨.ret,b,_,g,.inr ⟨rfl,j⟩⟩
  ·rw[if_neg y];have x:SR (wt r m-wt r n) (.ofNat 0)=false:=by rw[TO,decide_eq_false];simp only[Zz];omega
   by_cases Q:wt r n<wt r m
   ·rw[if_pos Q];have B:SR (.ofNat 0) (wt r m-wt r n)=true:=by rw[TO,decide_eq_true];simp only[Zz];omega
    have :∃b,Xb E K 0 [4,5,15,16,17] x114_2 (k+1) ⟨[(4,.one (.ptr 0 0 0 0)),(5,.one (.ptr 1 0 0 0)),(15,.one (.p l)),(16,LB o.length),(17,LB i)],⟨false,0,8,[Xw m],false,u⟩::⟨false,0,8,[Xw n],false,u⟩::G⟩=some (.ret,⟨b,⟨false,0,8,[Xw m],false,u⟩::⟨false,0,8,[Xw n],false,u⟩::(G++[⟨false,0,8,[Sk r],false,69⟩])⟩)/\Xh b 6=some (LB 1):=by
     apply VO
     ·rw[Xb];simp only[Xo,Xr,VR,reduceIte,Nat.reduceEqDiff,Nat.reduceLeDiff,Nat.reduceAdd,x114_2,e,f,ah,UH,w,O,P,v,I,q,z,J,L,N,x,B];rfl
     ·simp only[Xo,reduceIte,Nat.reduceEqDiff]
    obtain⟨b,g,j⟩:=this;exact⟨.ret,b,_,g,.inr ⟨rfl,j⟩⟩
   ·rw[if_neg Q];have B:SR (.ofNat 0) (wt r m-wt r n)=false:=by rw[TO,decide_eq_false];simp only[Zz];omega
    obtain⟨s,b,A,g,j⟩:=iI (K:=K) U S C D F Y u d (i+1) k (G++[⟨false,0,8,[Sk r],false,69⟩]) (by omega) (by omega);refine⟨s,b,A,?_,j⟩;rw[Xb];simp only[Xo,Xr,VR,reduceIte,Nat.reduceEqDiff,Nat.reduceLeDiff,Nat.reduceAdd,x114_2,e,f,ah,UH,w,O,P,v,I,q,z,J,L,N,x,B,W];exact g
theorem dB {B:Xs}(i:Std B){l:PL}{o:M'}{m n:P'}(v:TR l o)(D:Vt o)(j:XD m)(q:XD n)(r:o.length<1000000):Xu B 114 [.one l,.agg (mo m),.agg (mo n)] (.one (.int .i64 (WX o m n))):=by
 have C:=OJ i j.1 q.1;have g:=j.1;have h:=q.1;have s:(Xw m).take 8=Xw m:=Zd (by rw[Xc];omega);have t:(Xw n).take 8=Xw n:=Zd (by rw[Xc];omega);have f:=Uq m n (by rw[g,h]);have a:=v.len;rw[ZP]at a;refine Xu.of (i.Wa _ _ rfl) ((C.Xk.and (i.Xk.and (XS.ge (o.length+9)))).mono fun E K ⟨w,k,I⟩=> ?_);have c:∀(x y:Y'),UJ false .i64 8 [.agg x,.agg y]=(bif Nat.beq x.length 8 then(match Wk .i64 x y with |some b=>some ⟨.one (.p (.bool (b !=false))),[],[],[]⟩|none=>none)else none):=fun x y=>by
  simp only[UJ,Va.pure];cases Wk .i64 x y<;>rfl
 by_cases d:m=n
 ·rw[decide_eq_true d]at f;rw[show WX o m n=.ofNat 0 by rw[<-d];exact NP o m];simp only[Xo,Xr,reduceIte,Nat.reduceEqDiff,Nat.reduceLeDiff,Nat.reduceAdd,x114,Wj,Xc,g,h,s,t,c,f]
 ·rw[decide_eq_false d]at f;obtain⟨H,G,F,u,e⟩:=iI (E:=E) (K:=K) v D j q r (by omega) 73 o.length 0 K [] (by omega) (by omega);rw[Yh]at e;rcases e with⟨rfl,e,z,A⟩|⟨rfl,e⟩
  ·rw[e];simp only[Xo,Xr,reduceIte,Nat.reduceEqDiff,Nat.reduceLeDiff,Nat.reduceAdd,x114,Wj,Xc,g,h,s,t,c,f,a,Qr,Qp,k,X4,u,z,A,w]
  ·simp only[Xo,Xr,reduceIte,Nat.reduceEqDiff,Nat.reduceLeDiff,Nat.reduceAdd,x114,Wj,Xc,g,h,s,t,c,f,a,u,e]
end Go.Proofs.YtidginchkjhobaaGreat
