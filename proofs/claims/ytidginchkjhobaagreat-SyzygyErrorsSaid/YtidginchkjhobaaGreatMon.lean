/- Monomials: products. -/
import Derived.Test.YtidginchkjhobaaGreatRef
set_option maxHeartbeats 16000000
set_option maxRecDepth 100000
namespace Go.Proofs.YtidginchkjhobaaGreat
open Go.Ev Go.Num
def mo (m:List Nat):List PL:=m.map fun e=>.int .i64 (.ofNat e)
theorem SR {m:List Nat}(h:m.length=8):∃a b c d e f g i,m=[a,b,c,d,e,f,g,i]:=by
 match m,h with
 |[a,b,c,d,e,f,g,i],_=>exact⟨a,b,c,d,e,f,g,i,rfl⟩
theorem w1:Xe .i64 (.ofNat 1)=.ofNat 1/\Xe .i64 (.ofNat 2)=.ofNat 2/\Xe .i64 (.ofNat 3)=.ofNat 3/\Xe .i64 (.ofNat 4)=.ofNat 4/\Xe .i64 (.ofNat 5)=.ofNat 5/\Xe .i64 (.ofNat 6)=.ofNat 6/\Xe .i64 (.ofNat 7)=.ofNat 7/\Xe .i64 (.ofNat 8)=.ofNat 8:=⟨rfl,rfl,rfl,rfl,rfl,rfl,rfl,rfl⟩
def XE (m:List Nat):Prop:=m.length=8/\∀e∈m,e<=65535
theorem uH {B:Xs}(n:Std B){m:List Nat}(y:XE m):Xx B 164 [.agg (mo m)] (.one (.bool true)):=by
 obtain⟨l,j⟩:=y;obtain⟨a,b,c,d,e,f,g,i,rfl⟩:=SR l;simp only[Zj,Z0,or_false,forall_eq_or_imp,forall_eq]at j;obtain⟨o,p,r,s,t,u,v,w⟩:=j;refine Xx.of (n.Wa _ _ rfl) ((X1.ge 9).mono fun E K z=> ?_);obtain⟨k,rfl⟩:∃k,K=k+9:=⟨K-9,by omega⟩;have q:∀{x:Nat},x<=65535->¬65535<x:=fun h=>by omega
 simp(decide:=true)only[Xm,Xq,reduceIte,Nat.reduceAdd,Nat.reduceMul,x164,x164_1,Xb,mo,UP,w1,Nat.not_lt_zero,q o,q p,q r,q s,q t,q u,q v,q w,Vc.pure]
theorem qG {B:Xs}(n:Std B){m:List Nat}(y:XE m):Xx B 122 [.agg (mo m)] (.one (.bool true)):=by
 obtain⟨l,j⟩:=y;obtain⟨a,b,c,d,e,f,g,i,rfl⟩:=SR l;simp only[Zj,Z0,or_false,forall_eq_or_imp,forall_eq]at j;obtain⟨o,p,r,s,t,u,v,w⟩:=j;refine Xx.of (n.Wa _ _ rfl) ((X1.ge 9).mono fun E K z=> ?_);obtain⟨k,rfl⟩:∃k,K=k+9:=⟨K-9,by omega⟩;have q:∀{x:Nat},x<=65535->¬65535<x:=fun h=>by omega
 simp(decide:=true)only[Xm,Xq,reduceIte,Nat.reduceAdd,Nat.reduceMul,x122,x122_1,Xb,mo,w1,Nat.not_lt_zero,q o,q p,q r,q s,q t,q u,q v,q w]
theorem cO {B:Xs}(o:Std B){m n:List Nat}(p:XE m)(D:XE n)(F:XE (Xg m n)):Xx B 130 [.agg (mo m),.agg (mo n)] (.XZ [.agg (mo (Xg m n)),.one (.int .i64 (.ofNat 0))]):=by
 have G:=uH o F;obtain⟨Q,j⟩:=p;obtain⟨R,l⟩:=D;obtain⟨a,b,c,d,e,f,g,i,rfl⟩:=SR Q;obtain⟨S,T,U,V,W,X,Y,i',rfl⟩:=SR R;simp only[Zj,Z0,or_false,forall_eq_or_imp,forall_eq]at j l;obtain⟨s,t,u,v,w,z,A,C⟩:=j;obtain⟨H,I,J,L,M,N,O,P⟩:=l;refine Xx.of (o.Wa _ _ rfl) ((G.Xj.and (o.Xj.and (X1.ge 9))).mono fun E K ⟨e1,p,Z⟩=> ?_);obtain⟨r,rfl⟩:∃r,K=r+9:=⟨K-9,by omega⟩;have q:∀{x y:Nat},x<=65535->y<=65535->Xe .i64 (.ofNat (x+y))=.ofNat (x+y):=fun h k=>wrap_i64 (by omega)
 simp only[Xg,Zw,Z1,mo,Zr,ZE]at e1⊢;simp(decide:=true)only[Xm,Xq,reduceIte,Nat.reduceAdd,Nat.reduceMul,x130,x130_1,Xb,w1,q s H,q t I,q u J,q v L,q w M,q z N,q A O,q C P,p,X5,e1]
theorem kO {B:Xs}(o:Std B){m n:List Nat}(p:XE m)(D:XE n)(F:XE (Xg m n)):Xx B 90 [.agg (mo m),.agg (mo n)] (.XZ [.agg (mo (Xg m n)),.one (.int .i64 (.ofNat 0))]):=by
 have G:=qG o F;obtain⟨Q,j⟩:=p;obtain⟨R,l⟩:=D;obtain⟨a,b,c,d,e,f,g,i,rfl⟩:=SR Q;obtain⟨S,T,U,V,W,X,Y,i',rfl⟩:=SR R;simp only[Zj,Z0,or_false,forall_eq_or_imp,forall_eq]at j l;obtain⟨s,t,u,v,w,z,A,C⟩:=j;obtain⟨H,I,J,L,M,N,O,P⟩:=l;refine Xx.of (o.Wa _ _ rfl) ((G.Xj.and (o.Xj.and (X1.ge 9))).mono fun E K ⟨e1,p,Z⟩=> ?_);obtain⟨r,rfl⟩:∃r,K=r+9:=⟨K-9,by omega⟩;have q:∀{x y:Nat},x<=65535->y<=65535->Xe .i64 (.ofNat (x+y))=.ofNat (x+y):=fun h k=>wrap_i64 (by omega)
 simp only[Xg,Zw,Z1,mo,Zr,ZE]at e1⊢;simp(decide:=true)only[Xm,Xq,reduceIte,Nat.reduceAdd,Nat.reduceMul,x90,x90_1,Xb,w1,q s H,q t I,q u J,q v L,q w M,q z N,q A O,q C P,p,X5,e1]
def Xu (m:List Nat):List DL:=m.map fun e=>.p (.int .i64 (.ofNat e))
theorem Wk (m:List Nat):(mo m).map DL.p=Xu m:=by simp[mo,Xu]
theorem Xc (m:List Nat):(Xu m).length=m.length:=by simp[Xu]
theorem XI (m:List Nat):(mo m).length=m.length:=by simp[mo]
theorem WM {m:List Nat}{i e:Nat}(h:m[i]? =some e):(Xu m).drop i=.p (.int .i64 (.ofNat e))::Xu (m.drop (i+1)):=by
 obtain⟨a,rfl⟩:=Zb.1 h;rw[Xu,<-List.map_drop,ZV a];rfl
theorem TV {m:List Nat}{i e:Nat}(h:m[i]? =some e):m.drop i=e::m.drop (i+1):=by
 obtain⟨a,rfl⟩:=Zb.1 h;exact ZV a
theorem je {E:Xa}{K:Nat}{m n:List Nat}(q:m.length=8)(r:n.length=8)(t:Nat):∀(d i k:Nat),i+d=8->d<k->
  ∃b g,Xb E K 0 [2,3,5] x35_1 k ⟨[(2,.one (.ptr 0 0 0 0)),(3,.one (.ptr 1 0 0 0)),(5,.one (.p (.int .i64 (.ofNat i))))],[⟨false,0,8,[Xu m],false,t⟩,⟨false,0,8,[Xu n],false,t⟩]⟩=some (b,⟨g,[⟨false,0,8,[Xu m],false,t⟩,⟨false,0,8,[Xu n],false,t⟩]⟩)/\
   ((b=.exit 0/\WL (m.drop i) (n.drop i)=.ofNat 0)\/(b=.ret/\Xh g 4=some (.one (.p (.int .i64 (WL (m.drop i) (n.drop i)))))))
 |_,_,0,_,h=>by omega
 |0,i,k+1,hi,_=>by
  obtain rfl:i=8:=by omega
  refine⟨.exit 0,?_⟩;apply VE
  ·rw[Xb];simp only[Xm,Xq,reduceIte,Nat.reduceEqDiff,x35_1,Zx];rfl
  ·refine .inl ⟨rfl,?_⟩;rw[YA (by omega)];rfl
 |d+1,i,k+1,hi,hk=>by
  obtain⟨e,l⟩:∃e,m[i]? =some e:=⟨_,Zf (by omega)⟩;obtain⟨f,o⟩:∃f,n[i]? =some f:=⟨_,Zf (by omega)⟩;have s:i<8:=by omega
  have a:i<=8:=by omega
  have u:Xe .i64 (.ofNat (i+1))=.ofNat (i+1):=wrap_i64 (by omega);rw[TV l,TV o];simp only[WL];by_cases c:e<f
  ·rw[if_pos c];refine⟨.ret,?_⟩;apply VE
   ·rw[Xb];simp only[Xm,Xq,reduceIte,Nat.reduceEqDiff,ZX,x35_1,s,a,WM l,WM o,Xc,q,r,c];rfl
   ·exact .inr ⟨rfl,by simp only[Xm,reduceIte,Nat.reduceEqDiff]⟩
  ·rw[if_neg c];by_cases j:f<e
   ·rw[if_pos j];refine⟨.ret,?_⟩;apply VE
    ·rw[Xb];simp only[Xm,Xq,reduceIte,Nat.reduceEqDiff,ZX,x35_1,s,a,WM l,WM o,Xc,q,r,c,j];rfl
    ·exact .inr ⟨rfl,by simp only[Xm,reduceIte,Nat.reduceEqDiff]⟩
   ·rw[if_neg j];obtain⟨b,g,v,w⟩:=je q r t d (i+1) k (by omega) (by omega);refine⟨b,g,?_,w⟩;rw[Xb];simp only[Xm,Xq,reduceIte,Nat.reduceEqDiff,ZX,x35_1,s,a,WM l,WM o,Xc,q,r,c,j,u];exact v
theorem N2 {B:Xs}(e:Std B){m n:List Nat}(b:m.length=8)(c:n.length=8):Xx B 35 [.agg (mo m),.agg (mo n)] (.one (.int .i64 (WL m n))):=by
 refine Xx.of (e.Wa _ _ rfl) ((X1.ge 9).mono fun E K h=> ?_);obtain⟨g,f,d,a⟩:=je (E:=E) (K:=K) b c 73 8 0 K rfl (by omega);rw[Yb,Yb]at a;rcases a with⟨rfl,a⟩|⟨rfl,a⟩
 ·rw[a];simp only[Xm,Xq,reduceIte,Nat.reduceEqDiff,Nat.reduceLeDiff,x35,Wk,Xc,b,c,d]
 ·simp only[Xm,Xq,reduceIte,Nat.reduceEqDiff,Nat.reduceLeDiff,x35,Wk,Xc,b,c,d,a]
theorem V0:∀(m n:List Nat),m.length=n.length->Wh .i64 (Xu m) (Xu n)=some (decide (m=n))
 |[],[],_=>rfl
 |[],_::_,h=>by simp at h
 |_::_,[],h=>by simp at h
 |a::m,b::n,h=>by
  have c:=V0 m n (by simpa using h);simp only[Xu]at c;simp only[Xu,Zr,Wh,dG,zf,YW,YU,cond_true,c,zJ,ZJ,Za];by_cases d:a=b<;>by_cases e:m=n<;>simp[d,e]
theorem gn:∀{m n:List Nat},m.length=n.length->m≠n->∃p e f:Nat,m[p]? =some e/\n[p]? =some f/\e≠f/\(∀j,j<p->m[j]? =n[j]?)/\WL m n=if e<f then .negSucc 0 else .ofNat 1
 |[],[],_,h=>absurd rfl h
 |[],_::_,h,_=>by simp at h
 |_::_,[],h,_=>by simp at h
 |a::m,b::n,h,hne=>by
  by_cases e:a=b
  ·subst e;obtain⟨p,x,y,c,d,g,i,k⟩:=gn (m:=m) (n:=n) (by simpa using h) (fun q=>hne (by rw[q]));refine⟨p+1,x,y,by simpa using c,by simpa using d,g,fun j l=> ?_,?_⟩
   ·cases j with
    |zero=>rfl
    |succ j=>simpa using i j (by omega)
   ·simp only[WL,Zx,if_false];exact k
  ·refine⟨0,a,b,rfl,rfl,e,fun j l=>by omega,?_⟩;simp only[WL];split
   ·rfl
   ·rw[if_pos (by omega)]
theorem pC {E:Xa}{K:Nat}{m n:List Nat}(c:m.length=8)(q:n.length=8)(t:Nat){p e f:Nat}(l:m[p]? =some e)(s:n[p]? =some f)(g:e≠f)(r:∀j,j<p->m[j]? =n[j]?):∀(d i k:Nat),i+d=p->d<k->
  ∃b,Xb E K 0 [2,3,5] x151_1 k ⟨[(2,.one (.ptr 0 0 0 0)),(3,.one (.ptr 1 0 0 0)),(5,.one (.p (.int .i64 (.ofNat i))))],[⟨false,0,8,[Xu m],false,t⟩,⟨false,0,8,[Xu n],false,t⟩]⟩=some (.exit 0,⟨b,[⟨false,0,8,[Xu m],false,t⟩,⟨false,0,8,[Xu n],false,t⟩]⟩)/\
   (Xh b 2=some (.one (.ptr 0 0 0 0))/\Xh b 3=some (.one (.ptr 1 0 0 0))/\Xh b 5=some (.one (.p (.int .i64 (.ofNat p)))))
 |_,_,0,_,h=>by omega
 |0,i,k+1,hi,_=>by
  obtain rfl:i=p:=by omega
  have o:i<8:=by rw[<-c];exact(Zb.1 l).1
  have a:i<=8:=by omega
  apply VE
  ·rw[Xb];simp only[Xm,Xq,reduceIte,Nat.reduceEqDiff,ZX,x151_1,o,a,WM l,WM s,Xc,c,q,g];rfl
  ·simp only[Xm,reduceIte,Nat.reduceEqDiff,and_self]
 |d+1,i,k+1,hi,hk=>by
  have A:p<8:=by rw[<-c];exact(Zb.1 l).1
  obtain⟨x,u⟩:∃x,m[i]? =some x:=⟨_,Zf (by omega)⟩;have B:n[i]? =some x:=by rw[<-r i (by omega)];exact u
  have z:i<8:=by omega
  have a:i<=8:=by omega
  have v:Xe .i64 (.ofNat (i+1))=.ofNat (i+1):=wrap_i64 (by omega);obtain⟨b,w,y⟩:=pC (E:=E) (K:=K) c q t l s g r d (i+1) k (by omega) (by omega);refine⟨b,?_,y⟩;rw[Xb];simp only[Xm,Xq,reduceIte,Nat.reduceEqDiff,ZX,x151_1,z,a,WM u,WM B,Xc,c,q,v];exact w
theorem PT {B:Xs}(x:Std B){m n:List Nat}(c:m.length=8)(j:n.length=8):Xx B 151 [.agg (mo m),.agg (mo n)] (.one (.int .i64 (WL m n))):=by
 refine Xx.of (x.Wa _ _ rfl) ((X1.ge 9).mono fun E K z=> ?_);have k:Ul false .i64 8 [.agg (Xu m),.agg (Xu n)]=some ⟨.one (.p (.bool (decide (m=n)))),[],[],[]⟩:=by
  simp only[Ul,Xc,c,YW,cond_true,V0 m n (by omega),Vc.pure,Bool.bne_false]
 have g:(Xu m).take 8=Xu m:=Zd (by rw[Xc];omega);have a:(Xu n).take 8=Xu n:=Zd (by rw[Xc];omega);by_cases h:m=n
 ·rw[h,QE];rw[h]at k;simp only[Xm,Xq,reduceIte,Nat.reduceEqDiff,Nat.reduceLeDiff,x151,Wk,Xc,j,a,k]
 ·obtain⟨p,e,f,i,l,u,v,w⟩:=gn (by omega) h;have d:p<8:=by rw[<-c];exact(Zb.1 i).1
  have b:p<=8:=by omega
  obtain⟨y,o,q,r,s⟩:=pC (E:=E) (K:=K) c j 73 i l u v p 0 K (by omega) (by omega);rw[w];by_cases t:e<f
  ·simp only[Xm,Xq,reduceIte,Nat.reduceEqDiff,Nat.reduceLeDiff,ZX,x151,Wk,Xc,c,j,g,a,k,h,o,q,r,s,d,b,WM i,WM l,t]
  ·simp only[Xm,Xq,reduceIte,Nat.reduceEqDiff,Nat.reduceLeDiff,ZX,x151,Wk,Xc,c,j,g,a,k,h,o,q,r,s,d,b,WM i,WM l,t]
end Go.Proofs.YtidginchkjhobaaGreat
namespace Go.Num
def WO:List Nat->List Nat->Bool
 |a::cs,b::bs=>decide (a<=b)&&WO cs bs
 |_,_=>true
def XD (m n:List Nat):List Nat:=List.zipWith max m n
def P2 (m n:List Nat):List Nat:=List.zipWith min m n
def X6 (m n:List Nat):List Nat:=List.zipWith (·- ·) m n
theorem Un:∀{m n:List Nat},m.length=n.length->WO m n=true->Xg m (X6 n m)=n
 |[],[],_,_=>rfl
 |[],_::_,h,_=>by simp at h
 |_::_,[],h,_=>by simp at h
 |a::m,b::n,h,hd=>by
  simp only[WO,Zs,decide_eq_true_eq]at hd;have c:=Un (m:=m) (n:=n) (by simpa using h) hd.2;unfold Xg X6 at c⊢;rw[Zw,Zw,c,show a+(b-a)=b by omega]
theorem Qy:∀(m k:List Nat),WO m (Xg m k)=true
 |[],_=>rfl
 |_::_,[]=>rfl
 |a::m,b::k=>by
  have c:=Qy m k;unfold Xg at c⊢;simp only[Zw,WO,c,Bool.and_true,decide_eq_true_eq];omega
theorem TD:∀(m n:List Nat),m.length=n.length->WO m (XD m n)=true
 |[],[],_=>rfl
 |[],_::_,h=>by simp at h
 |_::_,[],h=>by simp at h
 |a::m,b::n,h=>by
  have c:=TD m n (by simpa using h);unfold XD at c⊢;simp only[Zw,WO,c,Bool.and_true,decide_eq_true_eq];exact Nat.le_max_left ..
theorem Sr:∀(m n:List Nat),m.length=n.length->WO n (XD m n)=true
 |[],[],_=>rfl
 |[],_::_,h=>by simp at h
 |_::_,[],h=>by simp at h
 |a::m,b::n,h=>by
  have c:=Sr m n (by simpa using h);unfold XD at c⊢;simp only[Zw,WO,c,Bool.and_true,decide_eq_true_eq];exact Nat.le_max_right ..
theorem tR:∀{m n:List Nat} {e:Nat},(∀x∈m,x<=e)->(∀x∈n,x<=e)->∀x∈XD m n,x<=e
 |[],_,_,_,_,x,hx=>by simp[XD]at hx
 |_::_,[],_,_,_,x,hx=>by simp[XD]at hx
 |a::m,b::n,e,h1,h2,x,hx=>by
  unfold XD at hx;rw[Zw]at hx;rcases Zj.1 hx with rfl|hx
  ·exact Nat.max_le.2 ⟨h1 a (Ze ..),h2 b (Ze ..)⟩
  ·exact tR (fun y c=>h1 y (Zc _ c)) (fun y c=>h2 y (Zc _ c)) x hx
theorem sL:∀{m n:List Nat} {e:Nat},(∀x∈m,x<=e)->∀x∈X6 m n,x<=e
 |[],_,_,_,x,hx=>by simp[X6]at hx
 |_::_,[],_,_,x,hx=>by simp[X6]at hx
 |a::m,b::n,e,h1,x,hx=>by
  unfold X6 at hx;rw[Zw]at hx;rcases Zj.1 hx with rfl|hx
  ·have:=h1 a (Ze ..);omega
  ·exact sL (fun y c=>h1 y (Zc _ c)) x hx
end Go.Num
namespace Go.Proofs.YtidginchkjhobaaGreat
open Go.Ev Go.Num
theorem RE (n:Nat)(h:HF):∀(m:List Nat),Xt (XA n h) (Xu m)=some (mo m)
 |[]=>rfl
 |e::m=>by
  have:=RE n h m;simp only[Xu,mo]at this;simp only[Xu,mo,Zr,Xt,jF,this]
theorem RC (n:Nat)(h:HF):∀(m:List Nat),(Xu m).flatMap (W1 n h)=[]
 |[]=>rfl
 |e::m=>by
  have:=RC n h m;simp only[Xu]at this;simp only[Xu,Zr,Yw,jC,this,ZS]
theorem yP (a b:Nat):Rx Tf [.one (.p (.int .i64 (.ofNat a))),.one (.p (.int .i64 (.ofNat b)))]=some ⟨.one (.p (.int .i64 (.ofNat (max a b)))),[],[],[]⟩:=by
 simp only[Rx,maxD,Nk,show dG .i64 .i64=true from rfl,cond_true,Vc.pure];by_cases h:a<b
 ·rw[decide_eq_true h,cond_true,Nat.max_eq_right (Nat.le_of_lt h)]
 ·rw[decide_eq_false h,cond_false,Nat.max_eq_left (by omega)]
theorem Dr (a b:Nat):Rx (fun a b=>Tf b a) [.one (.p (.int .i64 (.ofNat a))),.one (.p (.int .i64 (.ofNat b)))]=some ⟨.one (.p (.int .i64 (.ofNat (min a b)))),[],[],[]⟩:=by
 simp only[Rx,maxD,Nk,show dG .i64 .i64=true from rfl,cond_true,Vc.pure];by_cases h:b<a
 ·rw[decide_eq_true h,cond_true,Nat.min_eq_right (Nat.le_of_lt h)]
 ·rw[decide_eq_false h,cond_false,Yt (by omega)]
theorem oy {m n:List Nat}(a:XE m)(b:XE n):XE (XD m n):=⟨by simp[XD,a.1,b.1],tR a.2 b.2⟩
theorem TN {m n:List Nat}(a:XE m)(b:XE n):XE (X6 m n):=⟨by simp[X6,a.1,b.1],sL a.2⟩
theorem OZ {E:Xa}{K:Nat}{m n:List Nat}(o:m.length=8)(q:n.length=8)(t:Nat):∀(d i k:Nat),i+d=8->d<k->
  ∃c j,Xb E K 0 [2,3,5] x133_1 k ⟨[(2,.one (.ptr 0 0 0 0)),(3,.one (.ptr 1 0 0 0)),(5,.one (.p (.int .i64 (.ofNat i))))],[⟨false,0,8,[Xu m],false,t⟩,⟨false,0,8,[Xu n],false,t⟩]⟩=some (c,⟨j,[⟨false,0,8,[Xu m],false,t⟩,⟨false,0,8,[Xu n],false,t⟩]⟩)/\((c=.exit 0/\WO (m.drop i) (n.drop i)=true)\/(c=.ret/\WO (m.drop i) (n.drop i)=false/\Xh j 4=some (.one (.p (.bool false)))))
 |_,_,0,_,h=>by omega
 |0,i,k+1,hi,_=>by
  obtain rfl:i=8:=by omega
  refine⟨.exit 0,?_⟩;apply VE
  ·rw[Xb];simp only[Xm,Xq,reduceIte,Nat.reduceEqDiff,x133_1,Zx];rfl
  ·exact .inl ⟨rfl,by rw[YA (by omega)];rfl⟩
 |d+1,i,k+1,hi,hk=>by
  obtain⟨a,v⟩:∃a,m[i]? =some a:=⟨_,Zf (by omega)⟩;obtain⟨b,w⟩:∃b,n[i]? =some b:=⟨_,Zf (by omega)⟩;have f:i<8:=by omega
  have x:Xe .i64 (.ofNat (i+1))=.ofNat (i+1):=wrap_i64 (by omega);have r:i<=8:=by omega
  have s:=WM v;have u:=WM w;rw[TV v,TV w];by_cases h:a<=b
  ·obtain⟨c,j,g,y⟩:=OZ (E:=E) (K:=K) o q t d (i+1) k (by omega) (by omega);have l:¬b<a:=by omega
   have e:WO (a::m.drop (i+1)) (b::n.drop (i+1))=WO (m.drop (i+1)) (n.drop (i+1)):=by simp only[WO,decide_eq_true h,YF]
   rw[e];refine⟨c,j,?_,y⟩;rw[Xb];simp only[Xm,Xq,reduceIte,Nat.reduceEqDiff,ZX,x133_1,f,x,r,s,u,Xc,o,q,l];exact g
  ·have l:b<a:=by omega
   have e:WO (a::m.drop (i+1)) (b::n.drop (i+1))=false:=by simp only[WO,decide_eq_false h,Bool.false_and]
   rw[e];refine⟨.ret,?_⟩;apply VE
   ·rw[Xb];simp only[Xm,Xq,reduceIte,Nat.reduceEqDiff,ZX,x133_1,f,r,s,u,Xc,o,q,l];rfl
   ·exact .inr ⟨rfl,rfl,by simp only[Xm,reduceIte]⟩
theorem N4 {B:Xs}(g:Std B){m n:List Nat}(a:m.length=8)(b:n.length=8):Xx B 133 [.agg (mo m),.agg (mo n)] (.one (.bool (WO m n))):=by
 refine Xx.of (g.Wa _ _ rfl) ((X1.ge 9).mono fun E K j=> ?_);obtain⟨i,h,c,d⟩:=OZ (E:=E) (K:=K) a b 73 8 0 K (by omega) (by omega);rw[Yb,Yb]at d;rcases d with⟨rfl,e⟩|⟨rfl,e,f⟩
 ·rw[e];simp only[Xm,Xq,reduceIte,Nat.reduceEqDiff,Nat.reduceLeDiff,Nat.reduceAdd,x133,Wk,Xc,a,b,c]
 ·rw[e];simp only[Xm,Xq,reduceIte,Nat.reduceEqDiff,Nat.reduceLeDiff,Nat.reduceAdd,x133,Wk,Xc,a,b,c,f]
theorem O0 {E:Xa}{K:Nat}{m n:List Nat}(o:m.length=8)(q:n.length=8)(t:Nat):∀(d i k:Nat),i+d=8->d<k->
  ∃c j,Xb E K 0 [2,3,6] x115_1 k ⟨[(2,.one (.ptr 0 0 0 0)),(3,.one (.ptr 1 0 0 0)),(6,.one (.p (.int .i64 (.ofNat i))))],[⟨false,0,8,[Xu m],false,t⟩,⟨false,0,8,[Xu n],false,t⟩]⟩=some (c,⟨j,[⟨false,0,8,[Xu m],false,t⟩,⟨false,0,8,[Xu n],false,t⟩]⟩)/\((c=.exit 0/\WO (m.drop i) (n.drop i)=true)\/(c=.ret/\WO (m.drop i) (n.drop i)=false/\Xh j 4=some (.one (.p (.bool false)))))
 |_,_,0,_,h=>by omega
 |0,i,k+1,hi,_=>by
  obtain rfl:i=8:=by omega
  refine⟨.exit 0,?_⟩;apply VE
  ·rw[Xb];simp only[Xm,Xq,reduceIte,Nat.reduceEqDiff,x115_1,Zx];rfl
  ·exact .inl ⟨rfl,by rw[YA (by omega)];rfl⟩
 |d+1,i,k+1,hi,hk=>by
  obtain⟨a,v⟩:∃a,m[i]? =some a:=⟨_,Zf (by omega)⟩;obtain⟨b,w⟩:∃b,n[i]? =some b:=⟨_,Zf (by omega)⟩;have f:i<8:=by omega
  have x:Xe .i64 (.ofNat (i+1))=.ofNat (i+1):=wrap_i64 (by omega);have r:i<=8:=by omega
  have s:=WM v;have u:=WM w;rw[TV v,TV w];by_cases h:a<=b
  ·obtain⟨c,j,g,y⟩:=O0 (E:=E) (K:=K) o q t d (i+1) k (by omega) (by omega);have l:¬b<a:=by omega
   have e:WO (a::m.drop (i+1)) (b::n.drop (i+1))=WO (m.drop (i+1)) (n.drop (i+1)):=by simp only[WO,decide_eq_true h,YF]
   rw[e];refine⟨c,j,?_,y⟩;rw[Xb];simp only[Xm,Xq,reduceIte,Nat.reduceEqDiff,ZX,x115_1,f,x,r,s,u,Xc,o,q,l];exact g
  ·have l:b<a:=by omega
   have e:WO (a::m.drop (i+1)) (b::n.drop (i+1))=false:=by simp only[WO,decide_eq_false h,Bool.false_and]
   rw[e];refine⟨.ret,?_⟩;apply VE
   ·rw[Xb];simp only[Xm,Xq,reduceIte,Nat.reduceEqDiff,ZX,x115_1,f,r,s,u,Xc,o,q,l];rfl
   ·exact .inr ⟨rfl,rfl,by simp only[Xm,reduceIte]⟩
theorem ab {B:Xs}(g:Std B){m n:List Nat}(a:m.length=8)(b:n.length=8):Xx B 115 [.agg (mo m),.agg (mo n)] (.one (.bool (WO m n))):=by
 refine Xx.of (g.Wa _ _ rfl) ((X1.ge 9).mono fun E K j=> ?_);obtain⟨i,h,c,d⟩:=O0 (E:=E) (K:=K) a b 73 8 0 K (by omega) (by omega);rw[Yb,Yb]at d;rcases d with⟨rfl,e⟩|⟨rfl,e,f⟩
 ·rw[e];simp only[Xm,Xq,reduceIte,Nat.reduceEqDiff,Nat.reduceLeDiff,Nat.reduceAdd,x115,Wk,Xc,a,b,c]
 ·rw[e];simp only[Xm,Xq,reduceIte,Nat.reduceEqDiff,Nat.reduceLeDiff,Nat.reduceAdd,x115,Wk,Xc,a,b,c,f]
theorem ya {B:Xs}(l:Std B){m n:List Nat}(p:XE m)(q:XE n):Xx B 108 [.agg (mo m),.agg (mo n)] (.agg (mo (XD m n))):=by
 obtain⟨r,h⟩:=p;obtain⟨s,j⟩:=q;obtain⟨a,b,c,d,e,f,g,i,rfl⟩:=SR r;obtain⟨t,u,v,x,A,I,J,V,rfl⟩:=SR s;simp only[Zj,Z0,or_false,forall_eq_or_imp,forall_eq]at h j;obtain⟨M,N,O,P,Q,S,T,U⟩:=h;obtain⟨W,X,Y,Z,ke,kf,kg,ki⟩:=j;refine Xx.of (l.Wa _ _ rfl) (((X1.ge 9)).mono fun E K L=> ?_);obtain⟨k,rfl⟩:∃k,K=k+9:=⟨K-9,by omega⟩;simp only[XD,Zw,Z1,mo,Zr,ZE];obtain⟨w,lK,oD,oS,oR,z,y,e1,e2,C,D,F,G,H,o,R⟩:=T6;simp(decide:=true)only[Tl,R,o,Xq,reduceIte,Nat.reduceAdd,Nat.reduceMul,x108,x108_1,w1,yP]
theorem fw {B:Xs}(l:Std B){m n:List Nat}(p:XE m)(q:XE n):Xx B 63 [.agg (mo m),.agg (mo n)] (.agg (mo (XD m n))):=by
 obtain⟨r,h⟩:=p;obtain⟨s,j⟩:=q;obtain⟨a,b,c,d,e,f,g,i,rfl⟩:=SR r;obtain⟨t,u,v,x,A,I,J,V,rfl⟩:=SR s;simp only[Zj,Z0,or_false,forall_eq_or_imp,forall_eq]at h j;obtain⟨M,N,O,P,Q,S,T,U⟩:=h;obtain⟨W,X,Y,Z,ke,kf,kg,ki⟩:=j;refine Xx.of (l.Wa _ _ rfl) (((X1.ge 9)).mono fun E K L=> ?_);obtain⟨k,rfl⟩:∃k,K=k+9:=⟨K-9,by omega⟩;simp only[XD,Zw,Z1,mo,Zr,ZE];obtain⟨w,lK,oD,oS,oR,z,y,e1,e2,C,D,F,G,H,o,R⟩:=T6;simp(decide:=true)only[Tl,R,o,Xq,reduceIte,Nat.reduceAdd,Nat.reduceMul,x63,x63_1,w1,yP]
theorem bI {B:Xs}(l:Std B){m n:List Nat}(p:XE m)(q:XE n):Xx B 97 [.agg (mo m),.agg (mo n)] (.agg (mo (P2 m n))):=by
 obtain⟨r,h⟩:=p;obtain⟨s,j⟩:=q;obtain⟨a,b,c,d,e,f,g,i,rfl⟩:=SR r;obtain⟨t,u,v,x,A,I,J,V,rfl⟩:=SR s;simp only[Zj,Z0,or_false,forall_eq_or_imp,forall_eq]at h j;obtain⟨M,N,O,P,Q,S,T,U⟩:=h;obtain⟨W,X,Y,Z,ke,kf,kg,ki⟩:=j;refine Xx.of (l.Wa _ _ rfl) (((X1.ge 9)).mono fun E K L=> ?_);obtain⟨k,rfl⟩:∃k,K=k+9:=⟨K-9,by omega⟩;simp only[P2,Zw,Z1,mo,Zr,ZE];obtain⟨w,lK,oD,oS,oR,z,y,e1,e2,C,D,F,G,H,o,R⟩:=T6;simp(decide:=true)only[Tl,R,o,Xq,reduceIte,Nat.reduceAdd,Nat.reduceMul,x97,x97_1,w1,Dr]
theorem xX {B:Xs}(r:Std B){m n:List Nat}(v:XE m)(w:XE n)(j:WO n m=true):Xx B 136 [.agg (mo m),.agg (mo n)] (.XZ [.agg (mo (X6 m n)),.one (.bool true)]):=by
 have z:=N4 r w.1 v.1;rw[j]at z;have l:=j;clear j;obtain⟨U,o⟩:=v;obtain⟨V,p⟩:=w;obtain⟨a,b,c,d,e,f,g,i,rfl⟩:=SR U;obtain⟨W,X,Y,d',e',f',g',i',rfl⟩:=SR V;simp only[Zj,Z0,or_false,forall_eq_or_imp,forall_eq]at o p;obtain⟨M,N,O,j,P,Q,S,T⟩:=o;obtain⟨ka,kb,kc,kd,ke,kf,kg,ki⟩:=p;simp only[WO,Zs,decide_eq_true_eq,and_true]at l;obtain⟨A,C,D,F,G,H,I,J⟩:=l;refine Xx.of (r.Wa _ _ rfl) (((X1.ge 9).and (z.Xj.and r.Xj)).mono fun E K ⟨hK,u,s⟩=> ?_);obtain⟨t,rfl⟩:∃t,K=t+9:=⟨K-9,by omega⟩;simp only[X6,Zw,Z1,mo,Zr,ZE]at u⊢;have q:∀{x y:Nat},y<=x->x<=65535->Xe .i64 (.ofNat x-.ofNat y)=.ofNat (x-y):=fun h k=>Wj h (by omega)
 obtain⟨Z,lK,oD,oS,oR,dS,dD,e1,e2,e3,e4,e5,e6,e7,L,R⟩:=T6;simp(decide:=true)only[Tl,R,L,Xq,reduceIte,Nat.reduceAdd,Nat.reduceMul,x136,x136_1,w1,s,X5,u,q A M,q C N,q D O,q F j,q G P,q H Q,q I S,q J T]
theorem PM {B:Xs}(r:Std B){m n:List Nat}(v:XE m)(w:XE n)(j:WO n m=true):Xx B 62 [.agg (mo m),.agg (mo n)] (.XZ [.agg (mo (X6 m n)),.one (.bool true)]):=by
 have z:=ab r w.1 v.1;rw[j]at z;have l:=j;clear j;obtain⟨U,o⟩:=v;obtain⟨V,p⟩:=w;obtain⟨a,b,c,d,e,f,g,i,rfl⟩:=SR U;obtain⟨W,X,Y,d',e',f',g',i',rfl⟩:=SR V;simp only[Zj,Z0,or_false,forall_eq_or_imp,forall_eq]at o p;obtain⟨M,N,O,j,P,Q,S,T⟩:=o;obtain⟨ka,kb,kc,kd,ke,kf,kg,ki⟩:=p;simp only[WO,Zs,decide_eq_true_eq,and_true]at l;obtain⟨A,C,D,F,G,H,I,J⟩:=l;refine Xx.of (r.Wa _ _ rfl) (((X1.ge 9).and (z.Xj.and r.Xj)).mono fun E K ⟨hK,u,s⟩=> ?_);obtain⟨t,rfl⟩:∃t,K=t+9:=⟨K-9,by omega⟩;simp only[X6,Zw,Z1,mo,Zr,ZE]at u⊢;have q:∀{x y:Nat},y<=x->x<=65535->Xe .i64 (.ofNat x-.ofNat y)=.ofNat (x-y):=fun h k=>Wj h (by omega)
 obtain⟨Z,lK,oD,oS,oR,dS,dD,e1,e2,e3,e4,e5,e6,e7,L,R⟩:=T6;simp(decide:=true)only[Tl,R,L,Xq,reduceIte,Nat.reduceAdd,Nat.reduceMul,x62,x62_1,w1,s,X5,u,q A M,q C N,q D O,q F j,q G P,q H Q,q I S,q J T]
theorem vw {B:Xs}(b:Std B){m n:List Nat}(d:XE m)(f:XE n)(i:WO n m=false):Xx B 62 [.agg (mo m),.agg (mo n)] (.XZ [.agg (mo [0,0,0,0,0,0,0,0]),.one (.bool false)]):=by
 have g:=ab b f.1 d.1;rw[i]at g;refine Xx.of (b.Wa _ _ rfl) ((g.Xj.and b.Xj).mono fun E K ⟨h,c⟩=> ?_);have j:=d.1;have k:=f.1;have l:(Xu m).take 8=Xu m:=Zd (by rw[Xc];omega);have o:(Xu n).take 8=Xu n:=Zd (by rw[Xc];omega);simp only[mo,Zr,ZE];have a:=h;simp only[Xm,Xq,reduceIte,Nat.reduceEqDiff,Nat.reduceLeDiff,Nat.reduceAdd,x62,show(List.map (fun e=>PL.int IntKind.i64 (Int.ofNat e)) m).map DL.p=Xu m from Wk m,show(List.map (fun e=>PL.int IntKind.i64 (Int.ofNat e)) n).map DL.p=Xu n from Wk n,Xc,j,k,l,o,RE,RC,c,X5,a]
end Go.Proofs.YtidginchkjhobaaGreat
namespace Go.Num
def wt:List Int->List Nat->Int
 |r::rs,e::es=>r*(e:Int)+wt rs es
 |_,_=>0
def WC:List (List Int)->List Nat->List Nat->Int
 |[],m,n=>WL m n
 |r::o,m,n=>if wt r m<wt r n then .negSucc 0 else if wt r n<wt r m then .ofNat 1 else WC o m n
theorem QC:∀(o:List (List Int)) (m:List Nat),WC o m m=.ofNat 0
 |[],m=>QE m
 |r::o,m=>by simp only[WC,Int.lt_irrefl,if_false];exact QC o m
def wV (r:List Int):Prop:=r.length=8/\∀w∈r,-1000<=w/\w<=1000
def V3 (o:List (List Int)):Prop:=∀r∈o,wV r
theorem yN {w:Int}{e:Int}{W X:Int}(f: -W<=w)(g:w<=W)(i: -X<=e)(j:e<=X)(c:0<=W)(d:0<=X): -(W*X)<=w*e/\w*e<=W*X:=by
 have a:w.natAbs<=W.natAbs:=by omega
 have b:e.natAbs<=X.natAbs:=by omega
 have:=ZU a b;rw[<-Yf,<-Yf]at this;have h:0<=W*X:=Int.mul_nonneg c d;omega
end Go.Num
namespace Go.Proofs.YtidginchkjhobaaGreat
open Go.Ev Go.Num
theorem eu {z:Int}(b: -9223372036854775808<=z)(a:z<9223372036854775808):Xe .i64 z=z:=by
 cases z with
 |ofNat n=>exact wrap_i64 (by simp only[ZD]at a;omega)
 |negSucc n=>
  show UB .i64 (WK .i64 (.negSucc n))=_;have c:n<9223372036854775808:=by omega
  have e:WK .i64 (.negSucc n)=18446744073709551615-n:=by
   show(18446744073709551616-1)-n%18446744073709551616=_;rw[Zg (by omega)]
  rw[e];show(bif true&&Nat.ble (18446744073709551616 / 2) (18446744073709551615-n)then Int.negSucc (18446744073709551616-(18446744073709551615-n)-1)else _)=_;have h:Nat.ble (18446744073709551616 / 2) (18446744073709551615-n)=true:=RK (by omega);rw[h,YU,cond_true];congr 1;omega
theorem WR (x y:Int):Tf x y=decide (x<y):=by
 cases x with
 |ofNat a=>cases y with
  |ofNat b=>rw[Nk];congr 1;simp
  |negSucc b=>show false=_;rw[decide_eq_false (by simp only[ZD];omega)]
 |negSucc a=>cases y with
  |ofNat b=>show true=_;rw[decide_eq_true (by simp only[ZD];omega)]
  |negSucc b=>
   show Nat.blt b a=_;rw[aL];congr 1;simp only[eq_iff_iff];omega
def UE (r:List Int):List PL:=r.map fun z=>.int .i64 z
def UM (r:List Int):List DL:=r.map fun z=>.p (.int .i64 z)
theorem QV (r:List Int):(UE r).map DL.p=UM r:=by simp[UE,UM]
theorem Wv (r:List Int):(UM r).length=r.length:=by simp[UM]
theorem UL (r:List Int):(UE r).length=r.length:=by simp[UE]
theorem bC {r:List Int}{i:Nat}{w:Int}(h:r[i]? =some w):(UM r).drop i=.p (.int .i64 w)::UM (r.drop (i+1)):=by
 obtain⟨a,rfl⟩:=Zb.1 h;rw[UM,<-List.map_drop,ZV a];rfl
theorem Qu (n:Nat)(h:HF):∀(r:List Int),Xt (XA n h) (UM r)=some (UE r)
 |[]=>rfl
 |e::r=>by
  have:=Qu n h r;simp only[UM,UE]at this;simp only[UM,UE,Zr,Xt,jF,this]
theorem Qq (n:Nat)(h:HF):∀(r:List Int),(UM r).flatMap (W1 n h)=[]
 |[]=>rfl
 |e::r=>by
  have:=Qq n h r;simp only[UM]at this;simp only[UM,Zr,Yw,jC,this,ZS]
def SG (l:PL)(o:List (List Int)):Prop:=Sl l (o.map UE)
theorem cp {r:List Int}{i:Nat}{w:Int}(h:r[i]? =some w):r.drop i=w::r.drop (i+1):=by
 obtain⟨a,rfl⟩:=Zb.1 h;exact ZV a
theorem cD {E:Xa}{K:Nat}{r:List Int}{m:List Nat}(c:wV r)(g:XE m)(t u:Nat){M:Int}(B:M=65535000):∀(d i k:Nat) (a:Int),i+d=8->d<k->-((i:Int)*M)<=a->a<=(i:Int)*M->
  ∃f,Xb E K 0 [2,3,5,6] x135_1 k ⟨[(2,.one (.ptr 0 0 0 0)),(3,.one (.ptr 1 0 0 0)),(5,.one (.p (.int .i64 a))),(6,.one (.p (.int .i64 (.ofNat i))))],[⟨false,0,8,[UM r],false,t⟩,⟨false,0,8,[Xu m],false,u⟩]⟩=some (.exit 0,⟨f,[⟨false,0,8,[UM r],false,t⟩,⟨false,0,8,[Xu m],false,u⟩]⟩)/\Xh f 5=some (.one (.p (.int .i64 (a+wt (r.drop i) (m.drop i)))))
 |_,_,0,_,_,h,_,_=>by omega
 |0,i,k+1,a,hi,_,_,_=>by
  obtain rfl:i=8:=by omega
  rw[YA (by rw[c.1];omega),show wt [] (m.drop 8)=0 from rfl,Int.add_zero];apply VE
  ·rw[Xb];simp only[Xm,Xq,reduceIte,Nat.reduceEqDiff,x135_1,Zx];rfl
  ·simp only[Xm,reduceIte,Nat.reduceEqDiff]
 |d+1,i,k+1,a,hi,hk,h1,h2=>by
  obtain⟨w,q⟩:∃w,r[i]? =some w:=⟨_,Zf (by rw[c.1];omega)⟩;obtain⟨e,n⟩:∃e,m[i]? =some e:=⟨_,Zf (by rw[g.1];omega)⟩;have s:=c.2 w (Zn q);have L:=g.2 e (Zn n);obtain⟨I,J⟩:=yN (w:=w) (e:=(e:Int)) (W:=1000) (X:=65535) s.1 s.2 (by omega) (by omega) (by decide) (by decide);have o:i<8:=by omega
  have b:i<=8:=by omega
  have v:Xe .i64 (.ofNat (i+1))=.ofNat (i+1):=wrap_i64 (by omega);have j: -(((i+1:Nat):Int)*M)<=a+w*Int.ofNat e:=by
   rw[Int.natCast_add,Int.add_mul];simp only[ZD];omega
  have l:a+w*Int.ofNat e<=((i+1:Nat):Int)*M:=by
   rw[Int.natCast_add,Int.add_mul];simp only[ZD];omega
  have C:(i:Int)*M<=8*M:=Int.mul_le_mul_of_nonneg_right (by omega) (by omega);have x:Xe .i64 (w*Int.ofNat e)=w*Int.ofNat e:=eu (by simp only[ZD];omega) (by simp only[ZD];omega);have y:Xe .i64 (a+w*Int.ofNat e)=a+w*Int.ofNat e:=eu (by simp only[ZD];omega) (by simp only[ZD];omega);obtain⟨f,z,A⟩:=cD (E:=E) (K:=K) c g t u B d (i+1) k (a+w*Int.ofNat e) (by omega) (by omega) j l;rw[cp q,TV n];refine⟨f,?_,by rw[A];simp only[wt,ZD];rw[Int.add_assoc]⟩;have F:=bC q;have G:=WM n;have H:=c.1;have D:=g.1;rw[Xb];simp only[Xm,Xq,reduceIte,Nat.reduceEqDiff,ZX,x135_1,o,b,v,x,y,F,G,Wv,Xc,H,D];exact z
theorem ez {B:Xs}(e:Std B){r:List Int}{m:List Nat}(d:wV r)(c:XE m):Xx B 135 [.agg (UE r),.agg (mo m)] (.one (.int .i64 (wt r m))):=by
 refine Xx.of (e.Wa _ _ rfl) ((X1.ge 9).mono fun E K i=> ?_);obtain⟨h,a,b⟩:=cD (E:=E) (K:=K) d c 69 73 rfl 8 0 K 0 (by omega) (by omega) (by simp) (by simp);rw[Yb,Yb,Int.zero_add]at b;have g:=d.1;have f:=c.1;rw[show(0:Int)=Int.ofNat 0 from rfl]at a;simp only[Xm,Xq,reduceIte,Nat.reduceEqDiff,Nat.reduceLeDiff,Nat.reduceAdd,x135,Wk,Xc,QV,Wv,g,f,a,b]
theorem fg {E:Xa}{K:Nat}{l:PL}{o:List (List Int)}{m n:List Nat}(g:E.mode=md)(z:SG l o)(N:V3 o)(L:XE m)(M:XE n)(B:o.length<1000000)(u:Nat)
  (t:∀r∈o,E.pure 135 [.agg (UE r),.agg (mo m)]=some (.one (.int .i64 (wt r m)))) (v:∀r∈o,E.pure 135 [.agg (UE r),.agg (mo n)]=some (.one (.int .i64 (wt r n)))):∀(d i k:Nat),i+d=o.length->d<k->
  ∃s j,Xb E K 0 [0,4,5,7] x85_1 k ⟨[(0,.one (.p l)),(4,.one (.ptr 0 0 0 0)),(5,.one (.ptr 1 0 0 0)),(7,.one (.p (.int .i64 (.ofNat i))))],[⟨false,0,8,[Xu m],false,u⟩,⟨false,0,8,[Xu n],false,u⟩]⟩=some (s,⟨j,[⟨false,0,8,[Xu m],false,u⟩,⟨false,0,8,[Xu n],false,u⟩]⟩)/\
   ((s=.exit 0/\WC (o.drop i) m n=WL m n/\Xh j 4=some (.one (.ptr 0 0 0 0))/\Xh j 5=some (.one (.ptr 1 0 0 0)))\/(s=.ret/\Xh j 6=some (.one (.p (.int .i64 (WC (o.drop i) m n))))))
 |_,_,0,_,h=>by omega
 |0,i,k+1,hi,_=>by
  have b:¬i<o.length:=by omega
  have a:=z.len;rw[ZP]at a;refine⟨.exit 0,?_⟩;rw[YA (by omega)];apply VE
  ·rw[Xb];simp only[Xm,Xq,reduceIte,Nat.reduceEqDiff,x85_1,a,b];rfl
  ·exact .inl ⟨rfl,rfl,by simp only[Xm,reduceIte,Nat.reduceEqDiff],by simp only[Xm,reduceIte,Nat.reduceEqDiff]⟩
 |d+1,i,k+1,hi,hk=>by
  have b:i<o.length:=by omega
  have a:=z.len;rw[ZP]at a;obtain⟨r,C⟩:∃r,o[i]? =some r:=⟨_,Zf b⟩;have f:=Zn C;have y:=(N r f).1;have D:=L.1;have F:=M.1;have e:=fun(S:HF) (T:IntKind)=>z.idx (h:=S) (k:=T) (sz:=8) (c:=UE r) (i:=i) (by rw[ZA,C];rfl) (by rw[UL,y])
  have w1:=t r f;have J:=v r f;have P:Xe .i64 (.ofNat (i+1))=.ofNat (i+1):=wrap_i64 (by omega);have O:o.drop i=r::o.drop (i+1):=by
   obtain⟨q,rfl⟩:=Zb.1 C;exact ZV q
  have G:(Xu m).take 8=Xu m:=Zd (by rw[Xc];omega);have H:(Xu n).take 8=Xu n:=Zd (by rw[Xc];omega);have I:(UM r).take 8=UM r:=Zd (by rw[Wv];omega);rw[O];simp only[WC];by_cases q:wt r m<wt r n
  ·rw[if_pos q];have w:Tf (wt r m) (wt r n)=true:=by rw[WR,decide_eq_true q]
   refine⟨.ret,?_⟩;apply VE
   ·rw[Xb];simp only[Xm,Xq,reduceIte,Nat.reduceEqDiff,Nat.reduceLeDiff,x85_1,a,b,e,Xc,QV,Wv,y,D,F,G,H,I,RE,RC,Qu,Qq,g,X5,w1,J,w];rfl
   ·exact .inr ⟨rfl,by simp only[Xm,reduceIte,Nat.reduceEqDiff]⟩
  ·rw[if_neg q];have w:Tf (wt r m) (wt r n)=false:=by rw[WR,decide_eq_false q]
   by_cases x:wt r n<wt r m
   ·rw[if_pos x];have A:Tf (wt r n) (wt r m)=true:=by rw[WR,decide_eq_true x]
    refine⟨.ret,?_⟩;apply VE
    ·rw[Xb];simp only[Xm,Xq,reduceIte,Nat.reduceEqDiff,Nat.reduceLeDiff,x85_1,a,b,e,Xc,QV,Wv,y,D,F,G,H,I,RE,RC,Qu,Qq,g,X5,w1,J,w,A];rfl
    ·exact .inr ⟨rfl,by simp only[Xm,reduceIte,Nat.reduceEqDiff]⟩
   ·rw[if_neg x];have A:Tf (wt r n) (wt r m)=false:=by rw[WR,decide_eq_false x]
    obtain⟨s,j,Q,R⟩:=fg (K:=K) g z N L M B u t v d (i+1) k (by omega) (by omega);refine⟨s,j,?_,R⟩;rw[Xb];simp only[Xm,Xq,reduceIte,Nat.reduceEqDiff,Nat.reduceLeDiff,x85_1,a,b,e,Xc,QV,Wv,y,D,F,G,H,I,RE,RC,Qu,Qq,g,X5,w1,J,w,A,P];exact Q
theorem UU {B:Xs}{c:Type}{p:c->Xa->Nat->Prop}:∀{l:List c},(∀x∈l,X1 B (p x))->X1 B fun E K=>∀x∈l,p x E K
 |[],_=>X1.of fun _ _ _ h=>by cases h
 |a::l,h=>((h a (Ze ..)).and (UU fun x b=>h x (Zc _ b))).mono fun E K ⟨d,e⟩ x b=>by
  rcases Zj.1 b with rfl|b
  ·exact d
  ·exact e x b
theorem vt {B:Xs}(b:Std B){l:PL}{o:List (List Int)}{m n:List Nat}(w:SG l o)(f:V3 o)(d:XE m)(e:XE n)(g:o.length<1000000):Xx B 85 [.one l,.agg (mo m),.agg (mo n)] (.one (.int .i64 (WC o m n))):=by
 have i:X1 B fun E _=>∀r∈o,E.pure 135 [.agg (UE r),.agg (mo m)]=some (.one (.int .i64 (wt r m))):=UU fun r h=>(ez b (f r h) d).Xj
 have j:X1 B fun E _=>∀r∈o,E.pure 135 [.agg (UE r),.agg (mo n)]=some (.one (.int .i64 (wt r n))):=UU fun r h=>(ez b (f r h) e).Xj
 have v:=N2 b d.1 e.1;refine Xx.of (b.Wa _ _ rfl) ((i.and (j.and (v.Xj.and (b.Xj.and (X1.ge (o.length+1)))))).mono fun E K ⟨e1,e2,s,c,C⟩=> ?_);obtain⟨A,z,k,a⟩:=fg (K:=K) c w f d e g 73 e1 e2 o.length 0 K (by omega) (by omega);rw[Yb]at a;have p:=d.1;have q:=e.1;have x:(Xu m).take 8=Xu m:=Zd (by rw[Xc];omega);have y:(Xu n).take 8=Xu n:=Zd (by rw[Xc];omega);rcases a with⟨rfl,a,t,u⟩|⟨rfl,a⟩
 ·rw[a];simp only[Xm,Xq,reduceIte,Nat.reduceEqDiff,Nat.reduceLeDiff,Nat.reduceAdd,x85,Wk,Xc,p,q,x,y,RE,RC,c,X5,k,t,u,s]
 ·simp only[Xm,Xq,reduceIte,Nat.reduceEqDiff,Nat.reduceLeDiff,Nat.reduceAdd,x85,Wk,Xc,p,q,k,a]
end Go.Proofs.YtidginchkjhobaaGreat
namespace Go.Num
def Eh:List Int->List Nat->List Nat->Int
 |r::rs,a::as1,b::bs=>r*((a:Int)-(b:Int))+Eh rs as1 bs
 |_,_,_=>0
theorem xa:∀{r:List Int} {m n:List Nat},r.length=m.length->m.length=n.length->Eh r m n=wt r m-wt r n
 |[],[],[],_,_=>rfl
 |[],_::_,_,h,_=>by simp at h
 |_::_,[],_,h,_=>by simp at h
 |_,[],_::_,_,h=>by simp at h
 |_,_::_,[],_,h=>by simp at h
 |w::r,a::m,b::n,h1,h2=>by
  have c:=xa (r:=r) (m:=m) (n:=n) (by simpa using h1) (by simpa using h2);simp only[Eh,wt,c,Int.mul_sub];omega
end Go.Num
namespace Go.Proofs.YtidginchkjhobaaGreat
open Go.Ev Go.Num
def sD (l:PL)(len i:Nat)(acc:Int)(r:List Int)(j:Nat):List (Nat×DV):=[(4,.one (.ptr 0 0 0 0)),(5,.one (.ptr 1 0 0 0)),(9,.one (.p (.int .i64 acc))),(15,.one (.p l)),(16,.one (.p (.int .i64 (.ofNat len)))),(17,.one (.p (.int .i64 (.ofNat i)))),(21,.agg (UM r)),(22,.one (.p (.int .i64 (.ofNat j))))]
theorem N7 {E:Xa}{K:Nat}{l:PL}{len ii:Nat}{r:List Int}{m n:List Nat}(j:wV r)(o:XE m)(q:XE n){M:Int}(O:M=65535000)(u:Nat)(G:List Xz):∀(d i k:Nat) (a:Int),i+d=8->d<k->-((i:Int)*M)<=a->a<=(i:Int)*M->
  ∃b,Xb E K 0 [4,5,9,15,16,17,21,22] x114_1 k ⟨sD l len ii a r i,⟨false,0,8,[Xu m],false,u⟩::⟨false,0,8,[Xu n],false,u⟩::G⟩=some (.exit 2,⟨b,⟨false,0,8,[Xu m],false,u⟩::⟨false,0,8,[Xu n],false,u⟩::G⟩)/\(Xh b 4=some (.one (.ptr 0 0 0 0))/\Xh b 5=some (.one (.ptr 1 0 0 0))/\Xh b 9=some (.one (.p (.int .i64 (a+Eh (r.drop i) (m.drop i) (n.drop i)))))/\Xh b 15=some (.one (.p l))/\Xh b 16=some (.one (.p (.int .i64 (.ofNat len))))/\Xh b 17=some (.one (.p (.int .i64 (.ofNat ii)))))
 |_,_,0,_,_,h,_,_=>by omega
 |0,i,k+1,a,hi,_,_,_=>by
  obtain rfl:i=8:=by omega
  rw[YA (by rw[j.1];omega),show Eh [] (m.drop 8) (n.drop 8)=0 from rfl,Int.add_zero];unfold sD;apply VE
  ·rw[Xb];simp only[Xm,Xq,reduceIte,Nat.reduceEqDiff,x114_1,Zx];rfl
  ·simp only[Xm,reduceIte,Nat.reduceEqDiff,and_self]
 |d+1,i,k+1,a,hi,hk,h1,h2=>by
  obtain⟨w,z⟩:∃w,r[i]? =some w:=⟨_,Zf (by rw[j.1];omega)⟩;obtain⟨e,x⟩:∃e,m[i]? =some e:=⟨_,Zf (by rw[o.1];omega)⟩;obtain⟨f,y⟩:∃f,n[i]? =some f:=⟨_,Zf (by rw[q.1];omega)⟩;have A:=j.2 w (Zn z);have be:=o.2 e (Zn x);have bf:=q.2 f (Zn y);obtain⟨Z,b2⟩:=yN (w:=w) (e:=(e:Int)-(f:Int)) (W:=1000) (X:=65535) A.1 A.2 (by omega) (by omega) (by decide) (by decide);have c:i<8:=by omega
  have g:i<=8:=by omega
  have F:Xe .i64 (.ofNat (i+1))=.ofNat (i+1):=wrap_i64 (by omega);have t: -(((i+1:Nat):Int)*M)<=a+w*(Int.ofNat e-Int.ofNat f):=by
   rw[Int.natCast_add,Int.add_mul];simp only[ZD];omega
  have v:a+w*(Int.ofNat e-Int.ofNat f)<=((i+1:Nat):Int)*M:=by
   rw[Int.natCast_add,Int.add_mul];simp only[ZD];omega
  have P:(i:Int)*M<=8*M:=Int.mul_le_mul_of_nonneg_right (by omega) (by omega);have D:Xe .i64 (Int.ofNat e-Int.ofNat f)=Int.ofNat e-Int.ofNat f:=eu (by simp only[ZD];omega) (by simp only[ZD];omega);have H:Xe .i64 (w*(Int.ofNat e-Int.ofNat f))=w*(Int.ofNat e-Int.ofNat f):=eu (by simp only[ZD];omega) (by simp only[ZD];omega);have I:Xe .i64 (a+w*(Int.ofNat e-Int.ofNat f))=a+w*(Int.ofNat e-Int.ofNat f):=eu (by simp only[ZD];omega) (by simp only[ZD];omega);obtain⟨b,B,J,s,L,N⟩:=N7 (E:=E) (K:=K) (l:=l) (len:=len) (ii:=ii) j o q O u G d (i+1) k (a+w*(Int.ofNat e-Int.ofNat f)) (by omega) (by omega) t v;rw[cp z,TV x,TV y];refine⟨b,?_,J,s,by rw[L];simp only[Eh,ZD];rw[Int.add_assoc],N⟩;have S:=bC z;have T:=WM x;have U:=WM y;have Y:=j.1;have Q:=o.1;have R:=q.1;have V:∀C,UP 8 false 1 [.agg (UM r),.one (.p (.int C (.ofNat i)))]=some ⟨.one (.p (.int .i64 w)),[],[],[]⟩:=by
   intro C;simp only[UP,ZX,Og c,RK (show i<=(UM r).length by rw[Wv,Y];omega),YU,cond_true,S,Ti,cond_false,Vc.pure]
  unfold sD at B⊢;rw[Xb];simp only[Xm,Xq,reduceIte,Nat.reduceEqDiff,ZX,x114_1,c,g,D,F,H,I,T,U,V,Xc,Q,R];exact B
theorem fy {E:Xa}{K:Nat}{l:PL}{o:List (List Int)}{m n:List Nat}(U:SG l o)(S:V3 o)(C:XE m)(D:XE n)(F:o.length<1000000)(Y:9<=K)(u:Nat):∀(d i k:Nat) (G:List Xz),i+d=o.length->d<k->
  ∃s b A,Xb E K 0 [4,5,15,16,17] x114_2 k ⟨[(4,.one (.ptr 0 0 0 0)),(5,.one (.ptr 1 0 0 0)),(15,.one (.p l)),(16,.one (.p (.int .i64 (.ofNat o.length)))),(17,.one (.p (.int .i64 (.ofNat i))))],⟨false,0,8,[Xu m],false,u⟩::⟨false,0,8,[Xu n],false,u⟩::G⟩=some (s,⟨b,⟨false,0,8,[Xu m],false,u⟩::⟨false,0,8,[Xu n],false,u⟩::A⟩)/\
   ((s=.exit 0/\WC (o.drop i) m n=WL m n/\Xh b 4=some (.one (.ptr 0 0 0 0))/\Xh b 5=some (.one (.ptr 1 0 0 0)))\/(s=.ret/\Xh b 6=some (.one (.p (.int .i64 (WC (o.drop i) m n))))))
 |_,_,0,_,_,h=>by omega
 |0,i,k+1,G,hi,_=>by
  have e:¬i<o.length:=by omega
  rw[YA (by omega)];have :∃b,Xb E K 0 [4,5,15,16,17] x114_2 (k+1) ⟨[(4,.one (.ptr 0 0 0 0)),(5,.one (.ptr 1 0 0 0)),(15,.one (.p l)),(16,.one (.p (.int .i64 (.ofNat o.length)))),(17,.one (.p (.int .i64 (.ofNat i))))],⟨false,0,8,[Xu m],false,u⟩::⟨false,0,8,[Xu n],false,u⟩::G⟩=some (.exit 0,⟨b,⟨false,0,8,[Xu m],false,u⟩::⟨false,0,8,[Xu n],false,u⟩::G⟩)/\Xh b 4=some (.one (.ptr 0 0 0 0))/\Xh b 5=some (.one (.ptr 1 0 0 0)):=by
   apply VE
   ·rw[Xb];simp only[Xm,Xq,reduceIte,Nat.reduceEqDiff,x114_2,e];rfl
   ·simp only[Xm,reduceIte,Nat.reduceEqDiff,and_self]
  obtain⟨b,g,j,X⟩:=this;exact⟨.exit 0,b,G,g,.inl ⟨rfl,rfl,j,X⟩⟩
 |d+1,i,k+1,G,hi,hk=>by
  have e:i<o.length:=by omega
  obtain⟨r,H⟩:∃r,o[i]? =some r:=⟨_,Zf e⟩;have t:=Zn H;have R:=S r t;have w:=R.1;have T:=C.1;have n8:=D.1;have f:=fun(Z:HF) (kd:IntKind)=>U.idx (h:=Z) (k:=kd) (sz:=8) (c:=UE r) (i:=i) (by rw[ZA,H];rfl) (by rw[UL,w])
  have W:Xe .i64 (.ofNat (i+1))=.ofNat (i+1):=wrap_i64 (by omega);have V:o.drop i=r::o.drop (i+1):=by
   obtain⟨y,rfl⟩:=Zb.1 H;exact ZV y
  have O:(UM r).take 8=UM r:=Zd (by rw[Wv];omega);have t4:(UM r).drop 8=[]:=Zm (by rw[Wv];omega);obtain⟨T1,v,I,q,z,J,L,N⟩:=N7 (E:=E) (K:=K) (l:=l) (len:=o.length) (ii:=i) R C D (M:=65535000) rfl u (G++[⟨false,0,8,[UM r],false,69⟩]) 8 0 K 0 (by omega) (by omega) (by simp) (by simp);rw[Yb,Yb,Yb,Int.zero_add,xa (by rw[w,T]) (by rw[T,n8])]at z;unfold sD at v;rw[show(0:Int)=Int.ofNat 0 from rfl]at v;have P:R3 (UM r)=true:=by
   have :∀r:List Int,R3 (UM r)=true:=by
    intro r;induction r with
    |nil=>rfl
    |cons a r ih=>exact ih
   exact this r
  rw[V];simp only[WC];by_cases y:wt r m<wt r n
  ·rw[if_pos y];have x:Tf (wt r m-wt r n) (.ofNat 0)=true:=by rw[WR,decide_eq_true];simp only[ZD];omega
   have :∃b,Xb E K 0 [4,5,15,16,17] x114_2 (k+1) ⟨[(4,.one (.ptr 0 0 0 0)),(5,.one (.ptr 1 0 0 0)),(15,.one (.p l)),(16,.one (.p (.int .i64 (.ofNat o.length)))),(17,.one (.p (.int .i64 (.ofNat i))))],⟨false,0,8,[Xu m],false,u⟩::⟨false,0,8,[Xu n],false,u⟩::G⟩=some (.ret,⟨b,⟨false,0,8,[Xu m],false,u⟩::⟨false,0,8,[Xu n],false,u⟩::(G++[⟨false,0,8,[UM r],false,69⟩])⟩)/\Xh b 6=some (.one (.p (.int .i64 (.negSucc 0)))):=by
    apply VE
    ·rw[Xb];simp only[Xm,Xq,Vg,reduceIte,Nat.reduceEqDiff,Nat.reduceLeDiff,Nat.reduceAdd,x114_2,e,f,QV,Wv,w,O,P,v,I,q,z,J,L,N,x];rfl
    ·simp only[Xm,reduceIte,Nat.reduceEqDiff]
   obtain⟨b,g,j⟩:=this;exact⟨.ret,b,_,g,.inr ⟨rfl,j⟩⟩
  ·rw[if_neg y];have x:Tf (wt r m-wt r n) (.ofNat 0)=false:=by rw[WR,decide_eq_false];simp only[ZD];omega
   by_cases Q:wt r n<wt r m
   ·rw[if_pos Q];have B:Tf (.ofNat 0) (wt r m-wt r n)=true:=by rw[WR,decide_eq_true];simp only[ZD];omega
    have :∃b,Xb E K 0 [4,5,15,16,17] x114_2 (k+1) ⟨[(4,.one (.ptr 0 0 0 0)),(5,.one (.ptr 1 0 0 0)),(15,.one (.p l)),(16,.one (.p (.int .i64 (.ofNat o.length)))),(17,.one (.p (.int .i64 (.ofNat i))))],⟨false,0,8,[Xu m],false,u⟩::⟨false,0,8,[Xu n],false,u⟩::G⟩=some (.ret,⟨b,⟨false,0,8,[Xu m],false,u⟩::⟨false,0,8,[Xu n],false,u⟩::(G++[⟨false,0,8,[UM r],false,69⟩])⟩)/\Xh b 6=some (.one (.p (.int .i64 (.ofNat 1)))):=by
     apply VE
     ·rw[Xb];simp only[Xm,Xq,Vg,reduceIte,Nat.reduceEqDiff,Nat.reduceLeDiff,Nat.reduceAdd,x114_2,e,f,QV,Wv,w,O,P,v,I,q,z,J,L,N,x,B];rfl
     ·simp only[Xm,reduceIte,Nat.reduceEqDiff]
    obtain⟨b,g,j⟩:=this;exact⟨.ret,b,_,g,.inr ⟨rfl,j⟩⟩
   ·rw[if_neg Q];have B:Tf (.ofNat 0) (wt r m-wt r n)=false:=by rw[WR,decide_eq_false];simp only[ZD];omega
    obtain⟨s,b,A,g,j⟩:=fy (K:=K) U S C D F Y u d (i+1) k (G++[⟨false,0,8,[UM r],false,69⟩]) (by omega) (by omega);refine⟨s,b,A,?_,j⟩;rw[Xb];simp only[Xm,Xq,Vg,reduceIte,Nat.reduceEqDiff,Nat.reduceLeDiff,Nat.reduceAdd,x114_2,e,f,QV,Wv,w,O,P,v,I,q,z,J,L,N,x,B,W];exact g
theorem OA {B:Xs}(i:Std B){l:PL}{o:List (List Int)}{m n:List Nat}(v:SG l o)(D:V3 o)(j:XE m)(q:XE n)(r:o.length<1000000):Xx B 114 [.one l,.agg (mo m),.agg (mo n)] (.one (.int .i64 (WC o m n))):=by
 have C:=PT i j.1 q.1;have g:=j.1;have h:=q.1;have s:(Xu m).take 8=Xu m:=Zd (by rw[Xc];omega);have t:(Xu n).take 8=Xu n:=Zd (by rw[Xc];omega);have f:=V0 m n (by rw[g,h]);have a:=v.len;rw[ZP]at a;refine Xx.of (i.Wa _ _ rfl) ((C.Xj.and (i.Xj.and (X1.ge (o.length+9)))).mono fun E K ⟨w,k,I⟩=> ?_);have c:∀(x y:List DL),Ul false .i64 8 [.agg x,.agg y]=(bif Nat.beq x.length 8 then(match Wh .i64 x y with |some b=>some ⟨.one (.p (.bool (b !=false))),[],[],[]⟩|none=>none)else none):=fun x y=>by
  simp only[Ul,Vc.pure];cases Wh .i64 x y<;>rfl
 by_cases d:m=n
 ·rw[decide_eq_true d]at f;rw[show WC o m n=.ofNat 0 by rw[<-d];exact QC o m];simp only[Xm,Xq,reduceIte,Nat.reduceEqDiff,Nat.reduceLeDiff,Nat.reduceAdd,x114,Wk,Xc,g,h,s,t,c,f]
 ·rw[decide_eq_false d]at f;obtain⟨H,G,F,u,e⟩:=fy (E:=E) (K:=K) v D j q r (by omega) 73 o.length 0 K [] (by omega) (by omega);rw[Yb]at e;rcases e with⟨rfl,e,z,A⟩|⟨rfl,e⟩
  ·rw[e];simp only[Xm,Xq,reduceIte,Nat.reduceEqDiff,Nat.reduceLeDiff,Nat.reduceAdd,x114,Wk,Xc,g,h,s,t,c,f,a,RE,RC,k,X5,u,z,A,w]
  ·simp only[Xm,Xq,reduceIte,Nat.reduceEqDiff,Nat.reduceLeDiff,Nat.reduceAdd,x114,Wk,Xc,g,h,s,t,c,f,a,u,e]
end Go.Proofs.YtidginchkjhobaaGreat
