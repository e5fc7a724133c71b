/- Monomials: products. -/
import Derived.Test.YtefpgecinlekpaaGreatRef
set_option maxHeartbeats 16000000
set_option maxRecDepth 100000
namespace Go.Proofs.YtefpgecinlekpaaGreat
open Go.Ev Go.Num
def mo (m:List Nat):List PL:=m.map fun e=>.int .i64 (.ofNat e)
theorem SR {m:List Nat}(h:m.length=8):∃a b c d e f g i,m=[a,b,c,d,e,f,g,i]:=by
 match m,h with
 |[a,b,c,d,e,f,g,i],_=>exact⟨a,b,c,d,e,f,g,i,rfl⟩
theorem w1:Xe .i64 (.ofNat 1)=.ofNat 1/\Xe .i64 (.ofNat 2)=.ofNat 2/\Xe .i64 (.ofNat 3)=.ofNat 3/\Xe .i64 (.ofNat 4)=.ofNat 4/\Xe .i64 (.ofNat 5)=.ofNat 5/\Xe .i64 (.ofNat 6)=.ofNat 6/\Xe .i64 (.ofNat 7)=.ofNat 7/\Xe .i64 (.ofNat 8)=.ofNat 8:=⟨rfl,rfl,rfl,rfl,rfl,rfl,rfl,rfl⟩
def XL (m:List Nat):Prop:=m.length=8/\∀e∈m,e<=65535
theorem uv {B:Xr}(n:Std B){m:List Nat}(y:XL m):Xs B 94 [.agg (mo m)] (.one (.bool true)):=by
 obtain⟨l,j⟩:=y;obtain⟨a,b,c,d,e,f,g,i,rfl⟩:=SR l;simp only[Zk,ZX,or_false,forall_eq_or_imp,forall_eq]at j;obtain⟨o,p,r,s,t,u,v,w⟩:=j;refine Xs.of (n.X6 _ _ rfl) ((X0.ge 9).mono fun E K z=> ?_);obtain⟨k,rfl⟩:∃k,K=k+9:=⟨K-9,by omega⟩;have q:∀{x:Nat},x<=65535->¬65535<x:=fun h=>by omega
 simp(decide:=true)only[Xp,Xq,reduceIte,Nat.reduceAdd,Nat.reduceMul,x94,x94_1,Xc,mo,TR,w1,Nat.not_lt_zero,q o,q p,q r,q s,q t,q u,q v,q w,W5.pure]
theorem qm {B:Xr}(n:Std B){m:List Nat}(y:XL m):Xs B 74 [.agg (mo m)] (.one (.bool true)):=by
 obtain⟨l,j⟩:=y;obtain⟨a,b,c,d,e,f,g,i,rfl⟩:=SR l;simp only[Zk,ZX,or_false,forall_eq_or_imp,forall_eq]at j;obtain⟨o,p,r,s,t,u,v,w⟩:=j;refine Xs.of (n.X6 _ _ rfl) ((X0.ge 9).mono fun E K z=> ?_);obtain⟨k,rfl⟩:∃k,K=k+9:=⟨K-9,by omega⟩;have q:∀{x:Nat},x<=65535->¬65535<x:=fun h=>by omega
 simp(decide:=true)only[Xp,Xq,reduceIte,Nat.reduceAdd,Nat.reduceMul,x74,x74_1,Xc,mo,w1,Nat.not_lt_zero,q o,q p,q r,q s,q t,q u,q v,q w]
theorem P6 {B:Xr}(o:Std B){m n:List Nat}(p:XL m)(D:XL n)(F:XL (Xg m n)):Xs B 59 [.agg (mo m),.agg (mo n)] (.XY [.agg (mo (Xg m n)),.one (.int .i64 (.ofNat 0))]):=by
 have G:=uv o F;obtain⟨Q,j⟩:=p;obtain⟨R,l⟩:=D;obtain⟨a,b,c,d,e,f,g,i,rfl⟩:=SR Q;obtain⟨S,T,U,V,W,X,Y,i',rfl⟩:=SR R;simp only[Zk,ZX,or_false,forall_eq_or_imp,forall_eq]at j l;obtain⟨s,t,u,v,w,z,A,C⟩:=j;obtain⟨H,I,J,L,M,N,O,P⟩:=l;refine Xs.of (o.X6 _ _ rfl) ((G.Xi.and (o.Xi.and (X0.ge 9))).mono fun E K ⟨e1,p,Z⟩=> ?_);obtain⟨r,rfl⟩:∃r,K=r+9:=⟨K-9,by omega⟩;have q:∀{x y:Nat},x<=65535->y<=65535->Xe .i64 (.ofNat (x+y))=.ofNat (x+y):=fun h k=>wrap_i64 (by omega)
 simp only[Xg,ZG,YP,mo,Zw,ZT]at e1⊢;simp(decide:=true)only[Xp,Xq,reduceIte,Nat.reduceAdd,Nat.reduceMul,x59,x59_1,Xc,w1,q s H,q t I,q u J,q v L,q w M,q z N,q A O,q C P,p,XW,e1]
theorem kF {B:Xr}(o:Std B){m n:List Nat}(p:XL m)(D:XL n)(F:XL (Xg m n)):Xs B 120 [.agg (mo m),.agg (mo n)] (.XY [.agg (mo (Xg m n)),.one (.int .i64 (.ofNat 0))]):=by
 have G:=qm o F;obtain⟨Q,j⟩:=p;obtain⟨R,l⟩:=D;obtain⟨a,b,c,d,e,f,g,i,rfl⟩:=SR Q;obtain⟨S,T,U,V,W,X,Y,i',rfl⟩:=SR R;simp only[Zk,ZX,or_false,forall_eq_or_imp,forall_eq]at j l;obtain⟨s,t,u,v,w,z,A,C⟩:=j;obtain⟨H,I,J,L,M,N,O,P⟩:=l;refine Xs.of (o.X6 _ _ rfl) ((G.Xi.and (o.Xi.and (X0.ge 9))).mono fun E K ⟨e1,p,Z⟩=> ?_);obtain⟨r,rfl⟩:∃r,K=r+9:=⟨K-9,by omega⟩;have q:∀{x y:Nat},x<=65535->y<=65535->Xe .i64 (.ofNat (x+y))=.ofNat (x+y):=fun h k=>wrap_i64 (by omega)
 simp only[Xg,ZG,YP,mo,Zw,ZT]at e1⊢;simp(decide:=true)only[Xp,Xq,reduceIte,Nat.reduceAdd,Nat.reduceMul,x120,x120_1,Xc,w1,q s H,q t I,q u J,q v L,q w M,q z N,q A O,q C P,p,XW,e1]
def Xm (m:List Nat):List DL:=m.map fun e=>.p (.int .i64 (.ofNat e))
theorem XS (m:List Nat):(mo m).map DL.p=Xm m:=by simp[mo,Xm]
theorem Xa (m:List Nat):(Xm m).length=m.length:=by simp[Xm]
theorem Xy (m:List Nat):(mo m).length=m.length:=by simp[mo]
theorem WL {m:List Nat}{i e:Nat}(h:m[i]? =some e):(Xm m).drop i=.p (.int .i64 (.ofNat e))::Xm (m.drop (i+1)):=by
 obtain⟨a,rfl⟩:=Zd.1 h;rw[Xm,<-List.map_drop,Z7 a];rfl
theorem TV {m:List Nat}{i e:Nat}(h:m[i]? =some e):m.drop i=e::m.drop (i+1):=by
 obtain⟨a,rfl⟩:=Zd.1 h;exact Z7 a
theorem jf {E:Xb}{K:Nat}{m n:List Nat}(q:m.length=8)(r:n.length=8)(t:Nat):∀(d i k:Nat),i+d=8->d<k->
  ∃b g,Xc E K 0 [2,3,5] x38_1 k ⟨[(2,.one (.ptr 0 0 0 0)),(3,.one (.ptr 1 0 0 0)),(5,.one (.p (.int .i64 (.ofNat i))))],[⟨false,0,8,[Xm m],false,t⟩,⟨false,0,8,[Xm n],false,t⟩]⟩=some (b,⟨g,[⟨false,0,8,[Xm m],false,t⟩,⟨false,0,8,[Xm n],false,t⟩]⟩)/\
   ((b=.exit 0/\Wj (m.drop i) (n.drop i)=.ofNat 0)\/(b=.ret/\Xh g 4=some (.one (.p (.int .i64 (Wj (m.drop i) (n.drop i)))))))
 |_,_,0,_,h=>by omega
 |0,i,k+1,hi,_=>by
  obtain rfl:i=8:=by omega
  refine⟨.exit 0,?_⟩;apply VM
  ·rw[Xc];simp only[Xp,Xq,reduceIte,Nat.reduceEqDiff,x38_1,Zv];rfl
  ·refine .inl ⟨rfl,?_⟩;rw[YQ (by omega)];rfl
 |d+1,i,k+1,hi,hk=>by
  obtain⟨e,l⟩:∃e,m[i]? =some e:=⟨_,Zg (by omega)⟩;obtain⟨f,o⟩:∃f,n[i]? =some f:=⟨_,Zg (by omega)⟩;have s:i<8:=by omega
  have a:i<=8:=by omega
  have u:Xe .i64 (.ofNat (i+1))=.ofNat (i+1):=wrap_i64 (by omega);rw[TV l,TV o];simp only[Wj];by_cases c:e<f
  ·rw[if_pos c];refine⟨.ret,?_⟩;apply VM
   ·rw[Xc];simp only[Xp,Xq,reduceIte,Nat.reduceEqDiff,Yf,x38_1,s,a,WL l,WL o,Xa,q,r,c];rfl
   ·exact .inr ⟨rfl,by simp only[Xp,reduceIte,Nat.reduceEqDiff]⟩
  ·rw[if_neg c];by_cases j:f<e
   ·rw[if_pos j];refine⟨.ret,?_⟩;apply VM
    ·rw[Xc];simp only[Xp,Xq,reduceIte,Nat.reduceEqDiff,Yf,x38_1,s,a,WL l,WL o,Xa,q,r,c,j];rfl
    ·exact .inr ⟨rfl,by simp only[Xp,reduceIte,Nat.reduceEqDiff]⟩
   ·rw[if_neg j];obtain⟨b,g,v,w⟩:=jf q r t d (i+1) k (by omega) (by omega);refine⟨b,g,?_,w⟩;rw[Xc];simp only[Xp,Xq,reduceIte,Nat.reduceEqDiff,Yf,x38_1,s,a,WL l,WL o,Xa,q,r,c,j,u];exact v
theorem Pb {B:Xr}(e:Std B){m n:List Nat}(b:m.length=8)(c:n.length=8):Xs B 38 [.agg (mo m),.agg (mo n)] (.one (.int .i64 (Wj m n))):=by
 refine Xs.of (e.X6 _ _ rfl) ((X0.ge 9).mono fun E K h=> ?_);obtain⟨g,f,d,a⟩:=jf (E:=E) (K:=K) b c 51 8 0 K rfl (by omega);rw[Ye,Ye]at a;rcases a with⟨rfl,a⟩|⟨rfl,a⟩
 ·rw[a];simp only[Xp,Xq,reduceIte,Nat.reduceEqDiff,Nat.reduceLeDiff,x38,XS,Xa,b,c,d]
 ·simp only[Xp,Xq,reduceIte,Nat.reduceEqDiff,Nat.reduceLeDiff,x38,XS,Xa,b,c,d,a]
theorem Vt:∀(m n:List Nat),m.length=n.length->Wk .i64 (Xm m) (Xm n)=some (decide (m=n))
 |[],[],_=>rfl
 |[],_::_,h=>by simp at h
 |_::_,[],h=>by simp at h
 |a::m,b::n,h=>by
  have c:=Vt m n (by simpa using h);simp only[Xm]at c;simp only[Xm,Zw,Wk,dF,ze,YG,YT,cond_true,c,zJ,ZF,Za];by_cases d:a=b<;>by_cases e:m=n<;>simp[d,e]
theorem gj:∀{m n:List Nat},m.length=n.length->m≠n->∃p e f:Nat,m[p]? =some e/\n[p]? =some f/\e≠f/\(∀j,j<p->m[j]? =n[j]?)/\Wj m n=if e<f then .negSucc 0 else .ofNat 1
 |[],[],_,h=>absurd rfl h
 |[],_::_,h,_=>by simp at h
 |_::_,[],h,_=>by simp at h
 |a::m,b::n,h,hne=>by
  by_cases e:a=b
  ·subst e;obtain⟨p,x,y,c,d,g,i,k⟩:=gj (m:=m) (n:=n) (by simpa using h) (fun q=>hne (by rw[q]));refine⟨p+1,x,y,by simpa using c,by simpa using d,g,fun j l=> ?_,?_⟩
   ·cases j with
    |zero=>rfl
    |succ j=>simpa using i j (by omega)
   ·simp only[Wj,Zv,if_false];exact k
  ·refine⟨0,a,b,rfl,rfl,e,fun j l=>by omega,?_⟩;simp only[Wj];split
   ·rfl
   ·rw[if_pos (by omega)]
theorem o7 {E:Xb}{K:Nat}{m n:List Nat}(c:m.length=8)(q:n.length=8)(t:Nat){p e f:Nat}(l:m[p]? =some e)(s:n[p]? =some f)(g:e≠f)(r:∀j,j<p->m[j]? =n[j]?):∀(d i k:Nat),i+d=p->d<k->
  ∃b,Xc E K 0 [2,3,5] x95_1 k ⟨[(2,.one (.ptr 0 0 0 0)),(3,.one (.ptr 1 0 0 0)),(5,.one (.p (.int .i64 (.ofNat i))))],[⟨false,0,8,[Xm m],false,t⟩,⟨false,0,8,[Xm n],false,t⟩]⟩=some (.exit 0,⟨b,[⟨false,0,8,[Xm m],false,t⟩,⟨false,0,8,[Xm n],false,t⟩]⟩)/\
   (Xh b 2=some (.one (.ptr 0 0 0 0))/\Xh b 3=some (.one (.ptr 1 0 0 0))/\Xh b 5=some (.one (.p (.int .i64 (.ofNat p)))))
 |_,_,0,_,h=>by omega
 |0,i,k+1,hi,_=>by
  obtain rfl:i=p:=by omega
  have o:i<8:=by rw[<-c];exact(Zd.1 l).1
  have a:i<=8:=by omega
  apply VM
  ·rw[Xc];simp only[Xp,Xq,reduceIte,Nat.reduceEqDiff,Yf,x95_1,o,a,WL l,WL s,Xa,c,q,g];rfl
  ·simp only[Xp,reduceIte,Nat.reduceEqDiff,and_self]
 |d+1,i,k+1,hi,hk=>by
  have A:p<8:=by rw[<-c];exact(Zd.1 l).1
  obtain⟨x,u⟩:∃x,m[i]? =some x:=⟨_,Zg (by omega)⟩;have B:n[i]? =some x:=by rw[<-r i (by omega)];exact u
  have z:i<8:=by omega
  have a:i<=8:=by omega
  have v:Xe .i64 (.ofNat (i+1))=.ofNat (i+1):=wrap_i64 (by omega);obtain⟨b,w,y⟩:=o7 (E:=E) (K:=K) c q t l s g r d (i+1) k (by omega) (by omega);refine⟨b,?_,y⟩;rw[Xc];simp only[Xp,Xq,reduceIte,Nat.reduceEqDiff,Yf,x95_1,z,a,WL u,WL B,Xa,c,q,v];exact w
theorem Qa {B:Xr}(x:Std B){m n:List Nat}(c:m.length=8)(j:n.length=8):Xs B 95 [.agg (mo m),.agg (mo n)] (.one (.int .i64 (Wj m n))):=by
 refine Xs.of (x.X6 _ _ rfl) ((X0.ge 9).mono fun E K z=> ?_);have k:Vl false .i64 8 [.agg (Xm m),.agg (Xm n)]=some ⟨.one (.p (.bool (decide (m=n)))),[],[],[]⟩:=by
  simp only[Vl,Xa,c,YG,cond_true,Vt m n (by omega),W5.pure,Bool.bne_false]
 have g:(Xm m).take 8=Xm m:=Zb (by rw[Xa];omega);have a:(Xm n).take 8=Xm n:=Zb (by rw[Xa];omega);by_cases h:m=n
 ·rw[h,U0];rw[h]at k;simp only[Xp,Xq,reduceIte,Nat.reduceEqDiff,Nat.reduceLeDiff,x95,XS,Xa,j,a,k]
 ·obtain⟨p,e,f,i,l,u,v,w⟩:=gj (by omega) h;have d:p<8:=by rw[<-c];exact(Zd.1 i).1
  have b:p<=8:=by omega
  obtain⟨y,o,q,r,s⟩:=o7 (E:=E) (K:=K) c j 51 i l u v p 0 K (by omega) (by omega);rw[w];by_cases t:e<f
  ·simp only[Xp,Xq,reduceIte,Nat.reduceEqDiff,Nat.reduceLeDiff,Yf,x95,XS,Xa,c,j,g,a,k,h,o,q,r,s,d,b,WL i,WL l,t]
  ·simp only[Xp,Xq,reduceIte,Nat.reduceEqDiff,Nat.reduceLeDiff,Yf,x95,XS,Xa,c,j,g,a,k,h,o,q,r,s,d,b,WL i,WL l,t]
end Go.Proofs.YtefpgecinlekpaaGreat
namespace Go.Num
def X9:List Nat->List Nat->Bool
 |a::cs,b::bs=>decide (a<=b)&&X9 cs bs
 |_,_=>true
def Wb (m n:List Nat):List Nat:=List.zipWith max m n
def Og (m n:List Nat):List Nat:=List.zipWith min m n
def WW (m n:List Nat):List Nat:=List.zipWith (·- ·) m n
theorem RO:∀{m n:List Nat},m.length=n.length->X9 m n=true->Xg m (WW n m)=n
 |[],[],_,_=>rfl
 |[],_::_,h,_=>by simp at h
 |_::_,[],h,_=>by simp at h
 |a::m,b::n,h,hd=>by
  simp only[X9,Zp,decide_eq_true_eq]at hd;have c:=RO (m:=m) (n:=n) (by simpa using h) hd.2;unfold Xg WW at c⊢;rw[ZG,ZG,c,show a+(b-a)=b by omega]
theorem aL:∀(m k:List Nat),X9 m (Xg m k)=true
 |[],_=>rfl
 |_::_,[]=>rfl
 |a::m,b::k=>by
  have c:=aL m k;unfold Xg at c⊢;simp only[ZG,X9,c,Bool.and_true,decide_eq_true_eq];omega
theorem QR:∀(m n:List Nat),m.length=n.length->X9 m (Wb m n)=true
 |[],[],_=>rfl
 |[],_::_,h=>by simp at h
 |_::_,[],h=>by simp at h
 |a::m,b::n,h=>by
  have c:=QR m n (by simpa using h);unfold Wb at c⊢;simp only[ZG,X9,c,Bool.and_true,decide_eq_true_eq];exact Nat.le_max_left ..
theorem QQ:∀(m n:List Nat),m.length=n.length->X9 n (Wb m n)=true
 |[],[],_=>rfl
 |[],_::_,h=>by simp at h
 |_::_,[],h=>by simp at h
 |a::m,b::n,h=>by
  have c:=QQ m n (by simpa using h);unfold Wb at c⊢;simp only[ZG,X9,c,Bool.and_true,decide_eq_true_eq];exact Nat.le_max_right ..
theorem tA:∀{m n:List Nat} {e:Nat},(∀x∈m,x<=e)->(∀x∈n,x<=e)->∀x∈Wb m n,x<=e
 |[],_,_,_,_,x,hx=>by simp[Wb]at hx
 |_::_,[],_,_,_,x,hx=>by simp[Wb]at hx
 |a::m,b::n,e,h1,h2,x,hx=>by
  unfold Wb at hx;rw[ZG]at hx;rcases Zk.1 hx with rfl|hx
  ·exact Nat.max_le.2 ⟨h1 a (Ze ..),h2 b (Ze ..)⟩
  ·exact tA (fun y c=>h1 y (Zc _ c)) (fun y c=>h2 y (Zc _ c)) x hx
theorem se:∀{m n:List Nat} {e:Nat},(∀x∈m,x<=e)->∀x∈WW m n,x<=e
 |[],_,_,_,x,hx=>by simp[WW]at hx
 |_::_,[],_,_,x,hx=>by simp[WW]at hx
 |a::m,b::n,e,h1,x,hx=>by
  unfold WW at hx;rw[ZG]at hx;rcases Zk.1 hx with rfl|hx
  ·have:=h1 a (Ze ..);omega
  ·exact se (fun y c=>h1 y (Zc _ c)) x hx
end Go.Num
namespace Go.Proofs.YtefpgecinlekpaaGreat
open Go.Ev Go.Num
theorem RN (n:Nat)(h:HF):∀(m:List Nat),Xt (XB n h) (Xm m)=some (mo m)
 |[]=>rfl
 |e::m=>by
  have:=RN n h m;simp only[Xm,mo]at this;simp only[Xm,mo,Zw,Xt,jJ,this]
theorem RK (n:Nat)(h:HF):∀(m:List Nat),(Xm m).flatMap (WY n h)=[]
 |[]=>rfl
 |e::m=>by
  have:=RK n h m;simp only[Xm]at this;simp only[Xm,Zw,Yo,jG,this,ZN]
theorem yU (a b:Nat):RD T5 [.one (.p (.int .i64 (.ofNat a))),.one (.p (.int .i64 (.ofNat b)))]=some ⟨.one (.p (.int .i64 (.ofNat (max a b)))),[],[],[]⟩:=by
 simp only[RD,maxD,Nx,show dF .i64 .i64=true from rfl,cond_true,W5.pure];by_cases h:a<b
 ·rw[decide_eq_true h,cond_true,Nat.max_eq_right (Nat.le_of_lt h)]
 ·rw[decide_eq_false h,cond_false,Nat.max_eq_left (by omega)]
theorem DG (a b:Nat):RD (fun a b=>T5 b a) [.one (.p (.int .i64 (.ofNat a))),.one (.p (.int .i64 (.ofNat b)))]=some ⟨.one (.p (.int .i64 (.ofNat (min a b)))),[],[],[]⟩:=by
 simp only[RD,maxD,Nx,show dF .i64 .i64=true from rfl,cond_true,W5.pure];by_cases h:b<a
 ·rw[decide_eq_true h,cond_true,Nat.min_eq_right (Nat.le_of_lt h)]
 ·rw[decide_eq_false h,cond_false,Yn (by omega)]
theorem oj {m n:List Nat}(a:XL m)(b:XL n):XL (Wb m n):=⟨by simp[Wb,a.1,b.1],tA a.2 b.2⟩
theorem Qv {m n:List Nat}(a:XL m)(b:XL n):XL (WW m n):=⟨by simp[WW,a.1,b.1],se a.2⟩
theorem Na {E:Xb}{K:Nat}{m n:List Nat}(o:m.length=8)(q:n.length=8)(t:Nat):∀(d i k:Nat),i+d=8->d<k->
  ∃c j,Xc E K 0 [2,3,5] x85_1 k ⟨[(2,.one (.ptr 0 0 0 0)),(3,.one (.ptr 1 0 0 0)),(5,.one (.p (.int .i64 (.ofNat i))))],[⟨false,0,8,[Xm m],false,t⟩,⟨false,0,8,[Xm n],false,t⟩]⟩=some (c,⟨j,[⟨false,0,8,[Xm m],false,t⟩,⟨false,0,8,[Xm n],false,t⟩]⟩)/\((c=.exit 0/\X9 (m.drop i) (n.drop i)=true)\/(c=.ret/\X9 (m.drop i) (n.drop i)=false/\Xh j 4=some (.one (.p (.bool false)))))
 |_,_,0,_,h=>by omega
 |0,i,k+1,hi,_=>by
  obtain rfl:i=8:=by omega
  refine⟨.exit 0,?_⟩;apply VM
  ·rw[Xc];simp only[Xp,Xq,reduceIte,Nat.reduceEqDiff,x85_1,Zv];rfl
  ·exact .inl ⟨rfl,by rw[YQ (by omega)];rfl⟩
 |d+1,i,k+1,hi,hk=>by
  obtain⟨a,v⟩:∃a,m[i]? =some a:=⟨_,Zg (by omega)⟩;obtain⟨b,w⟩:∃b,n[i]? =some b:=⟨_,Zg (by omega)⟩;have f:i<8:=by omega
  have x:Xe .i64 (.ofNat (i+1))=.ofNat (i+1):=wrap_i64 (by omega);have r:i<=8:=by omega
  have s:=WL v;have u:=WL w;rw[TV v,TV w];by_cases h:a<=b
  ·obtain⟨c,j,g,y⟩:=Na (E:=E) (K:=K) o q t d (i+1) k (by omega) (by omega);have l:¬b<a:=by omega
   have e:X9 (a::m.drop (i+1)) (b::n.drop (i+1))=X9 (m.drop (i+1)) (n.drop (i+1)):=by simp only[X9,decide_eq_true h,Bool.true_and]
   rw[e];refine⟨c,j,?_,y⟩;rw[Xc];simp only[Xp,Xq,reduceIte,Nat.reduceEqDiff,Yf,x85_1,f,x,r,s,u,Xa,o,q,l];exact g
  ·have l:b<a:=by omega
   have e:X9 (a::m.drop (i+1)) (b::n.drop (i+1))=false:=by simp only[X9,decide_eq_false h,Bool.false_and]
   rw[e];refine⟨.ret,?_⟩;apply VM
   ·rw[Xc];simp only[Xp,Xq,reduceIte,Nat.reduceEqDiff,Yf,x85_1,f,r,s,u,Xa,o,q,l];rfl
   ·exact .inr ⟨rfl,rfl,by simp only[Xp,reduceIte]⟩
theorem Pc {B:Xr}(g:Std B){m n:List Nat}(a:m.length=8)(b:n.length=8):Xs B 85 [.agg (mo m),.agg (mo n)] (.one (.bool (X9 m n))):=by
 refine Xs.of (g.X6 _ _ rfl) ((X0.ge 9).mono fun E K j=> ?_);obtain⟨i,h,c,d⟩:=Na (E:=E) (K:=K) a b 51 8 0 K (by omega) (by omega);rw[Ye,Ye]at d;rcases d with⟨rfl,e⟩|⟨rfl,e,f⟩
 ·rw[e];simp only[Xp,Xq,reduceIte,Nat.reduceEqDiff,Nat.reduceLeDiff,Nat.reduceAdd,x85,XS,Xa,a,b,c]
 ·rw[e];simp only[Xp,Xq,reduceIte,Nat.reduceEqDiff,Nat.reduceLeDiff,Nat.reduceAdd,x85,XS,Xa,a,b,c,f]
theorem Nc {E:Xb}{K:Nat}{m n:List Nat}(o:m.length=8)(q:n.length=8)(t:Nat):∀(d i k:Nat),i+d=8->d<k->
  ∃c j,Xc E K 0 [2,3,6] x139_1 k ⟨[(2,.one (.ptr 0 0 0 0)),(3,.one (.ptr 1 0 0 0)),(6,.one (.p (.int .i64 (.ofNat i))))],[⟨false,0,8,[Xm m],false,t⟩,⟨false,0,8,[Xm n],false,t⟩]⟩=some (c,⟨j,[⟨false,0,8,[Xm m],false,t⟩,⟨false,0,8,[Xm n],false,t⟩]⟩)/\((c=.exit 0/\X9 (m.drop i) (n.drop i)=true)\/(c=.ret/\X9 (m.drop i) (n.drop i)=false/\Xh j 4=some (.one (.p (.bool false)))))
 |_,_,0,_,h=>by omega
 |0,i,k+1,hi,_=>by
  obtain rfl:i=8:=by omega
  refine⟨.exit 0,?_⟩;apply VM
  ·rw[Xc];simp only[Xp,Xq,reduceIte,Nat.reduceEqDiff,x139_1,Zv];rfl
  ·exact .inl ⟨rfl,by rw[YQ (by omega)];rfl⟩
 |d+1,i,k+1,hi,hk=>by
  obtain⟨a,v⟩:∃a,m[i]? =some a:=⟨_,Zg (by omega)⟩;obtain⟨b,w⟩:∃b,n[i]? =some b:=⟨_,Zg (by omega)⟩;have f:i<8:=by omega
  have x:Xe .i64 (.ofNat (i+1))=.ofNat (i+1):=wrap_i64 (by omega);have r:i<=8:=by omega
  have s:=WL v;have u:=WL w;rw[TV v,TV w];by_cases h:a<=b
  ·obtain⟨c,j,g,y⟩:=Nc (E:=E) (K:=K) o q t d (i+1) k (by omega) (by omega);have l:¬b<a:=by omega
   have e:X9 (a::m.drop (i+1)) (b::n.drop (i+1))=X9 (m.drop (i+1)) (n.drop (i+1)):=by simp only[X9,decide_eq_true h,Bool.true_and]
   rw[e];refine⟨c,j,?_,y⟩;rw[Xc];simp only[Xp,Xq,reduceIte,Nat.reduceEqDiff,Yf,x139_1,f,x,r,s,u,Xa,o,q,l];exact g
  ·have l:b<a:=by omega
   have e:X9 (a::m.drop (i+1)) (b::n.drop (i+1))=false:=by simp only[X9,decide_eq_false h,Bool.false_and]
   rw[e];refine⟨.ret,?_⟩;apply VM
   ·rw[Xc];simp only[Xp,Xq,reduceIte,Nat.reduceEqDiff,Yf,x139_1,f,r,s,u,Xa,o,q,l];rfl
   ·exact .inr ⟨rfl,rfl,by simp only[Xp,reduceIte]⟩
theorem Pd {B:Xr}(g:Std B){m n:List Nat}(a:m.length=8)(b:n.length=8):Xs B 139 [.agg (mo m),.agg (mo n)] (.one (.bool (X9 m n))):=by
 refine Xs.of (g.X6 _ _ rfl) ((X0.ge 9).mono fun E K j=> ?_);obtain⟨i,h,c,d⟩:=Nc (E:=E) (K:=K) a b 51 8 0 K (by omega) (by omega);rw[Ye,Ye]at d;rcases d with⟨rfl,e⟩|⟨rfl,e,f⟩
 ·rw[e];simp only[Xp,Xq,reduceIte,Nat.reduceEqDiff,Nat.reduceLeDiff,Nat.reduceAdd,x139,XS,Xa,a,b,c]
 ·rw[e];simp only[Xp,Xq,reduceIte,Nat.reduceEqDiff,Nat.reduceLeDiff,Nat.reduceAdd,x139,XS,Xa,a,b,c,f]
theorem xP {B:Xr}(l:Std B){m n:List Nat}(p:XL m)(q:XL n):Xs B 30 [.agg (mo m),.agg (mo n)] (.agg (mo (Wb m n))):=by
 obtain⟨r,h⟩:=p;obtain⟨s,j⟩:=q;obtain⟨a,b,c,d,e,f,g,i,rfl⟩:=SR r;obtain⟨t,u,v,x,A,H,I,U,rfl⟩:=SR s;simp only[Zk,ZX,or_false,forall_eq_or_imp,forall_eq]at h j;obtain⟨L,M,N,O,P,Q,S,T⟩:=h;obtain⟨V,W,X,Y,Z,kf,kg,ki⟩:=j;refine Xs.of (l.X6 _ _ rfl) (((X0.ge 9)).mono fun E K J=> ?_);obtain⟨k,rfl⟩:∃k,K=k+9:=⟨K-9,by omega⟩;simp only[Wb,ZG,YP,mo,Zw,ZT];obtain⟨w,lK,oD,oS,oR,z,y,e1,e2,e3,C,D,F,G,o,R⟩:=T7;simp(decide:=true)only[Tj,R,o,Xq,reduceIte,Nat.reduceAdd,Nat.reduceMul,x30,x30_1,w1,yU]
theorem yy {B:Xr}(l:Std B){m n:List Nat}(p:XL m)(q:XL n):Xs B 100 [.agg (mo m),.agg (mo n)] (.agg (mo (Wb m n))):=by
 obtain⟨r,h⟩:=p;obtain⟨s,j⟩:=q;obtain⟨a,b,c,d,e,f,g,i,rfl⟩:=SR r;obtain⟨t,u,v,x,A,H,I,U,rfl⟩:=SR s;simp only[Zk,ZX,or_false,forall_eq_or_imp,forall_eq]at h j;obtain⟨L,M,N,O,P,Q,S,T⟩:=h;obtain⟨V,W,X,Y,Z,kf,kg,ki⟩:=j;refine Xs.of (l.X6 _ _ rfl) (((X0.ge 9)).mono fun E K J=> ?_);obtain⟨k,rfl⟩:∃k,K=k+9:=⟨K-9,by omega⟩;simp only[Wb,ZG,YP,mo,Zw,ZT];obtain⟨w,lK,oD,oS,oR,z,y,e1,e2,e3,C,D,F,G,o,R⟩:=T7;simp(decide:=true)only[Tj,R,o,Xq,reduceIte,Nat.reduceAdd,Nat.reduceMul,x100,x100_1,w1,yU]
theorem bH {B:Xr}(l:Std B){m n:List Nat}(p:XL m)(q:XL n):Xs B 65 [.agg (mo m),.agg (mo n)] (.agg (mo (Og m n))):=by
 obtain⟨r,h⟩:=p;obtain⟨s,j⟩:=q;obtain⟨a,b,c,d,e,f,g,i,rfl⟩:=SR r;obtain⟨t,u,v,x,A,H,I,U,rfl⟩:=SR s;simp only[Zk,ZX,or_false,forall_eq_or_imp,forall_eq]at h j;obtain⟨L,M,N,O,P,Q,S,T⟩:=h;obtain⟨V,W,X,Y,Z,kf,kg,ki⟩:=j;refine Xs.of (l.X6 _ _ rfl) (((X0.ge 9)).mono fun E K J=> ?_);obtain⟨k,rfl⟩:∃k,K=k+9:=⟨K-9,by omega⟩;simp only[Og,ZG,YP,mo,Zw,ZT];obtain⟨w,lK,oD,oS,oR,z,y,e1,e2,e3,C,D,F,G,o,R⟩:=T7;simp(decide:=true)only[Tj,R,o,Xq,reduceIte,Nat.reduceAdd,Nat.reduceMul,x65,x65_1,w1,DG]
theorem xJ {B:Xr}(r:Std B){m n:List Nat}(v:XL m)(w:XL n)(j:X9 n m=true):Xs B 87 [.agg (mo m),.agg (mo n)] (.XY [.agg (mo (WW m n)),.one (.bool true)]):=by
 have z:=Pc r w.1 v.1;rw[j]at z;have l:=j;clear j;obtain⟨U,o⟩:=v;obtain⟨V,p⟩:=w;obtain⟨a,b,c,d,e,f,g,i,rfl⟩:=SR U;obtain⟨W,X,Y,d',e',f',g',i',rfl⟩:=SR V;simp only[Zk,ZX,or_false,forall_eq_or_imp,forall_eq]at o p;obtain⟨M,N,O,j,P,Q,S,T⟩:=o;obtain⟨ka,kb,kc,kd,ke,kf,kg,ki⟩:=p;simp only[X9,Zp,decide_eq_true_eq,and_true]at l;obtain⟨A,C,D,F,G,H,I,J⟩:=l;refine Xs.of (r.X6 _ _ rfl) (((X0.ge 9).and (z.Xi.and r.Xi)).mono fun E K ⟨hK,u,s⟩=> ?_);obtain⟨t,rfl⟩:∃t,K=t+9:=⟨K-9,by omega⟩;simp only[WW,ZG,YP,mo,Zw,ZT]at u⊢;have q:∀{x y:Nat},y<=x->x<=65535->Xe .i64 (.ofNat x-.ofNat y)=.ofNat (x-y):=fun h k=>Wh h (by omega)
 obtain⟨Z,lK,oD,oS,oR,dS,dD,e1,e2,e3,e4,e5,e6,e7,L,R⟩:=T7;simp(decide:=true)only[Tj,R,L,Xq,reduceIte,Nat.reduceAdd,Nat.reduceMul,x87,x87_1,w1,s,XW,u,q A M,q C N,q D O,q F j,q G P,q H Q,q I S,q J T]
theorem nG {B:Xr}(r:Std B){m n:List Nat}(v:XL m)(w:XL n)(j:X9 n m=true):Xs B 103 [.agg (mo m),.agg (mo n)] (.XY [.agg (mo (WW m n)),.one (.bool true)]):=by
 have z:=Pd r w.1 v.1;rw[j]at z;have l:=j;clear j;obtain⟨U,o⟩:=v;obtain⟨V,p⟩:=w;obtain⟨a,b,c,d,e,f,g,i,rfl⟩:=SR U;obtain⟨W,X,Y,d',e',f',g',i',rfl⟩:=SR V;simp only[Zk,ZX,or_false,forall_eq_or_imp,forall_eq]at o p;obtain⟨M,N,O,j,P,Q,S,T⟩:=o;obtain⟨ka,kb,kc,kd,ke,kf,kg,ki⟩:=p;simp only[X9,Zp,decide_eq_true_eq,and_true]at l;obtain⟨A,C,D,F,G,H,I,J⟩:=l;refine Xs.of (r.X6 _ _ rfl) (((X0.ge 9).and (z.Xi.and r.Xi)).mono fun E K ⟨hK,u,s⟩=> ?_);obtain⟨t,rfl⟩:∃t,K=t+9:=⟨K-9,by omega⟩;simp only[WW,ZG,YP,mo,Zw,ZT]at u⊢;have q:∀{x y:Nat},y<=x->x<=65535->Xe .i64 (.ofNat x-.ofNat y)=.ofNat (x-y):=fun h k=>Wh h (by omega)
 obtain⟨Z,lK,oD,oS,oR,dS,dD,e1,e2,e3,e4,e5,e6,e7,L,R⟩:=T7;simp(decide:=true)only[Tj,R,L,Xq,reduceIte,Nat.reduceAdd,Nat.reduceMul,x103,x103_1,w1,s,XW,u,q A M,q C N,q D O,q F j,q G P,q H Q,q I S,q J T]
theorem vg {B:Xr}(b:Std B){m n:List Nat}(d:XL m)(f:XL n)(i:X9 n m=false):Xs B 103 [.agg (mo m),.agg (mo n)] (.XY [.agg (mo [0,0,0,0,0,0,0,0]),.one (.bool false)]):=by
 have g:=Pd b f.1 d.1;rw[i]at g;refine Xs.of (b.X6 _ _ rfl) ((g.Xi.and b.Xi).mono fun E K ⟨h,c⟩=> ?_);have j:=d.1;have k:=f.1;have l:(Xm m).take 8=Xm m:=Zb (by rw[Xa];omega);have o:(Xm n).take 8=Xm n:=Zb (by rw[Xa];omega);simp only[mo,Zw,ZT];have a:=h;simp only[Xp,Xq,reduceIte,Nat.reduceEqDiff,Nat.reduceLeDiff,Nat.reduceAdd,x103,show(List.map (fun e=>PL.int IntKind.i64 (Int.ofNat e)) m).map DL.p=Xm m from XS m,show(List.map (fun e=>PL.int IntKind.i64 (Int.ofNat e)) n).map DL.p=Xm n from XS n,Xa,j,k,l,o,RN,RK,c,XW,a]
end Go.Proofs.YtefpgecinlekpaaGreat
namespace Go.Num
def wt:List Int->List Nat->Int
 |r::rs,e::es=>r*(e:Int)+wt rs es
 |_,_=>0
def WQ:List (List Int)->List Nat->List Nat->Int
 |[],m,n=>Wj m n
 |r::o,m,n=>if wt r m<wt r n then .negSucc 0 else if wt r n<wt r m then .ofNat 1 else WQ o m n
theorem O1:∀(o:List (List Int)) (m:List Nat),WQ o m m=.ofNat 0
 |[],m=>U0 m
 |r::o,m=>by simp only[WQ,Int.lt_irrefl,if_false];exact O1 o m
def rQ (r:List Int):Prop:=r.length=8/\∀w∈r,-1000<=w/\w<=1000
def VE (o:List (List Int)):Prop:=∀r∈o,rQ r
theorem yO {w:Int}{e:Int}{W X:Int}(f: -W<=w)(g:w<=W)(i: -X<=e)(j:e<=X)(c:0<=W)(d:0<=X): -(W*X)<=w*e/\w*e<=W*X:=by
 have a:w.natAbs<=W.natAbs:=by omega
 have b:e.natAbs<=X.natAbs:=by omega
 have:=Ya a b;rw[<-Yg,<-Yg]at this;have h:0<=W*X:=Int.mul_nonneg c d;omega
end Go.Num
namespace Go.Proofs.YtefpgecinlekpaaGreat
open Go.Ev Go.Num
theorem er {z:Int}(b: -9223372036854775808<=z)(a:z<9223372036854775808):Xe .i64 z=z:=by
 cases z with
 |ofNat n=>exact wrap_i64 (by simp only[ZA]at a;omega)
 |negSucc n=>
  show UC .i64 (WJ .i64 (.negSucc n))=_;have c:n<9223372036854775808:=by omega
  have e:WJ .i64 (.negSucc n)=18446744073709551615-n:=by
   show(18446744073709551616-1)-n%18446744073709551616=_;rw[Zf (by omega)]
  rw[e];show(bif true&&Nat.ble (18446744073709551616 / 2) (18446744073709551615-n)then Int.negSucc (18446744073709551616-(18446744073709551615-n)-1)else _)=_;have h:Nat.ble (18446744073709551616 / 2) (18446744073709551615-n)=true:=Qf (by omega);rw[h,YT,cond_true];congr 1;omega
theorem Tn (x y:Int):T5 x y=decide (x<y):=by
 cases x with
 |ofNat a=>cases y with
  |ofNat b=>rw[Nx];congr 1;simp
  |negSucc b=>show false=_;rw[decide_eq_false (by simp only[ZA];omega)]
 |negSucc a=>cases y with
  |ofNat b=>show true=_;rw[decide_eq_true (by simp only[ZA];omega)]
  |negSucc b=>
   show Nat.blt b a=_;rw[aS];congr 1;simp only[eq_iff_iff];omega
def Ua (r:List Int):List PL:=r.map fun z=>.int .i64 z
def TN (r:List Int):List DL:=r.map fun z=>.p (.int .i64 z)
theorem Nn (r:List Int):(Ua r).map DL.p=TN r:=by simp[Ua,TN]
theorem Un (r:List Int):(TN r).length=r.length:=by simp[TN]
theorem N6 (r:List Int):(Ua r).length=r.length:=by simp[Ua]
theorem jd {r:List Int}{i:Nat}{w:Int}(h:r[i]? =some w):(TN r).drop i=.p (.int .i64 w)::TN (r.drop (i+1)):=by
 obtain⟨a,rfl⟩:=Zd.1 h;rw[TN,<-List.map_drop,Z7 a];rfl
theorem aC (n:Nat)(h:HF):∀(r:List Int),Xt (XB n h) (TN r)=some (Ua r)
 |[]=>rfl
 |e::r=>by
  have:=aC n h r;simp only[TN,Ua]at this;simp only[TN,Ua,Zw,Xt,jJ,this]
theorem aB (n:Nat)(h:HF):∀(r:List Int),(TN r).flatMap (WY n h)=[]
 |[]=>rfl
 |e::r=>by
  have:=aB n h r;simp only[TN]at this;simp only[TN,Zw,Yo,jG,this,ZN]
def S6 (l:PL)(o:List (List Int)):Prop:=Sl l (o.map Ua)
theorem jS {r:List Int}{i:Nat}{w:Int}(h:r[i]? =some w):r.drop i=w::r.drop (i+1):=by
 obtain⟨a,rfl⟩:=Zd.1 h;exact Z7 a
theorem cA {E:Xb}{K:Nat}{r:List Int}{m:List Nat}(c:rQ r)(g:XL m)(t u:Nat){M:Int}(B:M=65535000):∀(d i k:Nat) (a:Int),i+d=8->d<k->-((i:Int)*M)<=a->a<=(i:Int)*M->
  ∃f,Xc E K 0 [2,3,5,6] x76_1 k ⟨[(2,.one (.ptr 0 0 0 0)),(3,.one (.ptr 1 0 0 0)),(5,.one (.p (.int .i64 a))),(6,.one (.p (.int .i64 (.ofNat i))))],[⟨false,0,8,[TN r],false,t⟩,⟨false,0,8,[Xm m],false,u⟩]⟩=some (.exit 0,⟨f,[⟨false,0,8,[TN r],false,t⟩,⟨false,0,8,[Xm m],false,u⟩]⟩)/\Xh f 5=some (.one (.p (.int .i64 (a+wt (r.drop i) (m.drop i)))))
 |_,_,0,_,_,h,_,_=>by omega
 |0,i,k+1,a,hi,_,_,_=>by
  obtain rfl:i=8:=by omega
  rw[YQ (by rw[c.1];omega),show wt [] (m.drop 8)=0 from rfl,Int.add_zero];apply VM
  ·rw[Xc];simp only[Xp,Xq,reduceIte,Nat.reduceEqDiff,x76_1,Zv];rfl
  ·simp only[Xp,reduceIte,Nat.reduceEqDiff]
 |d+1,i,k+1,a,hi,hk,h1,h2=>by
  obtain⟨w,q⟩:∃w,r[i]? =some w:=⟨_,Zg (by rw[c.1];omega)⟩;obtain⟨e,n⟩:∃e,m[i]? =some e:=⟨_,Zg (by rw[g.1];omega)⟩;have s:=c.2 w (Zt q);have L:=g.2 e (Zt n);obtain⟨I,J⟩:=yO (w:=w) (e:=(e:Int)) (W:=1000) (X:=65535) s.1 s.2 (by omega) (by omega) (by decide) (by decide);have o:i<8:=by omega
  have b:i<=8:=by omega
  have v:Xe .i64 (.ofNat (i+1))=.ofNat (i+1):=wrap_i64 (by omega);have j: -(((i+1:Nat):Int)*M)<=a+w*Int.ofNat e:=by
   rw[Int.natCast_add,Int.add_mul];simp only[ZA];omega
  have l:a+w*Int.ofNat e<=((i+1:Nat):Int)*M:=by
   rw[Int.natCast_add,Int.add_mul];simp only[ZA];omega
  have C:(i:Int)*M<=8*M:=Int.mul_le_mul_of_nonneg_right (by omega) (by omega);have x:Xe .i64 (w*Int.ofNat e)=w*Int.ofNat e:=er (by simp only[ZA];omega) (by simp only[ZA];omega);have y:Xe .i64 (a+w*Int.ofNat e)=a+w*Int.ofNat e:=er (by simp only[ZA];omega) (by simp only[ZA];omega);obtain⟨f,z,A⟩:=cA (E:=E) (K:=K) c g t u B d (i+1) k (a+w*Int.ofNat e) (by omega) (by omega) j l;rw[jS q,TV n];refine⟨f,?_,by rw[A];simp only[wt,ZA];rw[Int.add_assoc]⟩;have F:=jd q;have G:=WL n;have H:=c.1;have D:=g.1;rw[Xc];simp only[Xp,Xq,reduceIte,Nat.reduceEqDiff,Yf,x76_1,o,b,v,x,y,F,G,Un,Xa,H,D];exact z
theorem eu {B:Xr}(e:Std B){r:List Int}{m:List Nat}(d:rQ r)(c:XL m):Xs B 76 [.agg (Ua r),.agg (mo m)] (.one (.int .i64 (wt r m))):=by
 refine Xs.of (e.X6 _ _ rfl) ((X0.ge 9).mono fun E K i=> ?_);obtain⟨h,a,b⟩:=cA (E:=E) (K:=K) d c 50 51 rfl 8 0 K 0 (by omega) (by omega) (by simp) (by simp);rw[Ye,Ye,Int.zero_add]at b;have g:=d.1;have f:=c.1;rw[show(0:Int)=Int.ofNat 0 from rfl]at a;simp only[Xp,Xq,reduceIte,Nat.reduceEqDiff,Nat.reduceLeDiff,Nat.reduceAdd,x76,XS,Xa,Nn,Un,g,f,a,b]
theorem fe {E:Xb}{K:Nat}{l:PL}{o:List (List Int)}{m n:List Nat}(g:E.mode=md)(z:S6 l o)(N:VE o)(L:XL m)(M:XL n)(B:o.length<1000000)(u:Nat)
  (t:∀r∈o,E.pure 76 [.agg (Ua r),.agg (mo m)]=some (.one (.int .i64 (wt r m)))) (v:∀r∈o,E.pure 76 [.agg (Ua r),.agg (mo n)]=some (.one (.int .i64 (wt r n)))):∀(d i k:Nat),i+d=o.length->d<k->
  ∃s j,Xc E K 0 [0,4,5,7] x31_1 k ⟨[(0,.one (.p l)),(4,.one (.ptr 0 0 0 0)),(5,.one (.ptr 1 0 0 0)),(7,.one (.p (.int .i64 (.ofNat i))))],[⟨false,0,8,[Xm m],false,u⟩,⟨false,0,8,[Xm n],false,u⟩]⟩=some (s,⟨j,[⟨false,0,8,[Xm m],false,u⟩,⟨false,0,8,[Xm n],false,u⟩]⟩)/\
   ((s=.exit 0/\WQ (o.drop i) m n=Wj m n/\Xh j 4=some (.one (.ptr 0 0 0 0))/\Xh j 5=some (.one (.ptr 1 0 0 0)))\/(s=.ret/\Xh j 6=some (.one (.p (.int .i64 (WQ (o.drop i) m n))))))
 |_,_,0,_,h=>by omega
 |0,i,k+1,hi,_=>by
  have b:¬i<o.length:=by omega
  have a:=z.len;rw[Zy]at a;refine⟨.exit 0,?_⟩;rw[YQ (by omega)];apply VM
  ·rw[Xc];simp only[Xp,Xq,reduceIte,Nat.reduceEqDiff,x31_1,a,b];rfl
  ·exact .inl ⟨rfl,rfl,by simp only[Xp,reduceIte,Nat.reduceEqDiff],by simp only[Xp,reduceIte,Nat.reduceEqDiff]⟩
 |d+1,i,k+1,hi,hk=>by
  have b:i<o.length:=by omega
  have a:=z.len;rw[Zy]at a;obtain⟨r,C⟩:∃r,o[i]? =some r:=⟨_,Zg b⟩;have f:=Zt C;have y:=(N r f).1;have D:=L.1;have F:=M.1;have e:=fun(S:HF) (T:IntKind)=>z.idx (h:=S) (k:=T) (sz:=8) (c:=Ua r) (i:=i) (by rw[Zx,C];rfl) (by rw[N6,y])
  have w1:=t r f;have J:=v r f;have P:Xe .i64 (.ofNat (i+1))=.ofNat (i+1):=wrap_i64 (by omega);have O:o.drop i=r::o.drop (i+1):=by
   obtain⟨q,rfl⟩:=Zd.1 C;exact Z7 q
  have G:(Xm m).take 8=Xm m:=Zb (by rw[Xa];omega);have H:(Xm n).take 8=Xm n:=Zb (by rw[Xa];omega);have I:(TN r).take 8=TN r:=Zb (by rw[Un];omega);rw[O];simp only[WQ];by_cases q:wt r m<wt r n
  ·rw[if_pos q];have w:T5 (wt r m) (wt r n)=true:=by rw[Tn,decide_eq_true q]
   refine⟨.ret,?_⟩;apply VM
   ·rw[Xc];simp only[Xp,Xq,reduceIte,Nat.reduceEqDiff,Nat.reduceLeDiff,x31_1,a,b,e,Xa,Nn,Un,y,D,F,G,H,I,RN,RK,aC,aB,g,XW,w1,J,w];rfl
   ·exact .inr ⟨rfl,by simp only[Xp,reduceIte,Nat.reduceEqDiff]⟩
  ·rw[if_neg q];have w:T5 (wt r m) (wt r n)=false:=by rw[Tn,decide_eq_false q]
   by_cases x:wt r n<wt r m
   ·rw[if_pos x];have A:T5 (wt r n) (wt r m)=true:=by rw[Tn,decide_eq_true x]
    refine⟨.ret,?_⟩;apply VM
    ·rw[Xc];simp only[Xp,Xq,reduceIte,Nat.reduceEqDiff,Nat.reduceLeDiff,x31_1,a,b,e,Xa,Nn,Un,y,D,F,G,H,I,RN,RK,aC,aB,g,XW,w1,J,w,A];rfl
    ·exact .inr ⟨rfl,by simp only[Xp,reduceIte,Nat.reduceEqDiff]⟩
   ·rw[if_neg x];have A:T5 (wt r n) (wt r m)=false:=by rw[Tn,decide_eq_false x]
    obtain⟨s,j,Q,R⟩:=fe (K:=K) g z N L M B u t v d (i+1) k (by omega) (by omega);refine⟨s,j,?_,R⟩;rw[Xc];simp only[Xp,Xq,reduceIte,Nat.reduceEqDiff,Nat.reduceLeDiff,x31_1,a,b,e,Xa,Nn,Un,y,D,F,G,H,I,RN,RK,aC,aB,g,XW,w1,J,w,A,P];exact Q
theorem Vg {B:Xr}{c:Type}{p:c->Xb->Nat->Prop}:∀{l:List c},(∀x∈l,X0 B (p x))->X0 B fun E K=>∀x∈l,p x E K
 |[],_=>X0.of fun _ _ _ h=>by cases h
 |a::l,h=>((h a (Ze ..)).and (Vg fun x b=>h x (Zc _ b))).mono fun E K ⟨d,e⟩ x b=>by
  rcases Zk.1 b with rfl|b
  ·exact d
  ·exact e x b
theorem jg {B:Xr}(b:Std B){l:PL}{o:List (List Int)}{m n:List Nat}(v:S6 l o)(f:VE o)(d:XL m)(e:XL n)(g:o.length<1000000):Xs B 31 [.one l,.agg (mo m),.agg (mo n)] (.one (.int .i64 (WQ o m n))):=by
 have i:X0 B fun E _=>∀r∈o,E.pure 76 [.agg (Ua r),.agg (mo m)]=some (.one (.int .i64 (wt r m))):=Vg fun r h=>(eu b (f r h) d).Xi
 have j:X0 B fun E _=>∀r∈o,E.pure 76 [.agg (Ua r),.agg (mo n)]=some (.one (.int .i64 (wt r n))):=Vg fun r h=>(eu b (f r h) e).Xi
 have u:=Pb b d.1 e.1;refine Xs.of (b.X6 _ _ rfl) ((i.and (j.and (u.Xi.and (b.Xi.and (X0.ge (o.length+1)))))).mono fun E K ⟨e1,e2,e3,c,A⟩=> ?_);obtain⟨z,y,k,a⟩:=fe (K:=K) c v f d e g 51 e1 e2 o.length 0 K (by omega) (by omega);rw[Ye]at a;have p:=d.1;have q:=e.1;have w:(Xm m).take 8=Xm m:=Zb (by rw[Xa];omega);have x:(Xm n).take 8=Xm n:=Zb (by rw[Xa];omega);rcases a with⟨rfl,a,s,t⟩|⟨rfl,a⟩
 ·rw[a];simp only[Xp,Xq,reduceIte,Nat.reduceEqDiff,Nat.reduceLeDiff,Nat.reduceAdd,x31,XS,Xa,p,q,w,x,RN,RK,c,XW,k,s,t,e3]
 ·simp only[Xp,Xq,reduceIte,Nat.reduceEqDiff,Nat.reduceLeDiff,Nat.reduceAdd,x31,XS,Xa,p,q,k,a]
end Go.Proofs.YtefpgecinlekpaaGreat
namespace Go.Num
def Ez:List Int->List Nat->List Nat->Int
 |r::rs,a::as1,b::bs=>r*((a:Int)-(b:Int))+Ez rs as1 bs
 |_,_,_=>0
theorem wS:∀{r:List Int} {m n:List Nat},r.length=m.length->m.length=n.length->Ez r m n=wt r m-wt r n
 |[],[],[],_,_=>rfl
 |[],_::_,_,h,_=>by simp at h
 |_::_,[],_,h,_=>by simp at h
 |_,[],_::_,_,h=>by simp at h
 |_,_::_,[],_,h=>by simp at h
 |w::r,a::m,b::n,h1,h2=>by
  have c:=wS (r:=r) (m:=m) (n:=n) (by simpa using h1) (by simpa using h2);simp only[Ez,wt,c,Int.mul_sub];omega
end Go.Num
namespace Go.Proofs.YtefpgecinlekpaaGreat
open Go.Ev Go.Num
def r6 (l:PL)(len i:Nat)(acc:Int)(r:List Int)(j:Nat):List (Nat×DV):=[(4,.one (.ptr 0 0 0 0)),(5,.one (.ptr 1 0 0 0)),(9,.one (.p (.int .i64 acc))),(15,.one (.p l)),(16,.one (.p (.int .i64 (.ofNat len)))),(17,.one (.p (.int .i64 (.ofNat i)))),(21,.agg (TN r)),(22,.one (.p (.int .i64 (.ofNat j))))]
theorem aa {E:Xb}{K:Nat}{l:PL}{len ii:Nat}{r:List Int}{m n:List Nat}(j:rQ r)(o:XL m)(q:XL n){M:Int}(O:M=65535000)(u:Nat)(G:List Xz):∀(d i k:Nat) (a:Int),i+d=8->d<k->-((i:Int)*M)<=a->a<=(i:Int)*M->
  ∃b,Xc E K 0 [4,5,9,15,16,17,21,22] x60_1 k ⟨r6 l len ii a r i,⟨false,0,8,[Xm m],false,u⟩::⟨false,0,8,[Xm n],false,u⟩::G⟩=some (.exit 2,⟨b,⟨false,0,8,[Xm m],false,u⟩::⟨false,0,8,[Xm n],false,u⟩::G⟩)/\(Xh b 4=some (.one (.ptr 0 0 0 0))/\Xh b 5=some (.one (.ptr 1 0 0 0))/\Xh b 9=some (.one (.p (.int .i64 (a+Ez (r.drop i) (m.drop i) (n.drop i)))))/\Xh b 15=some (.one (.p l))/\Xh b 16=some (.one (.p (.int .i64 (.ofNat len))))/\Xh b 17=some (.one (.p (.int .i64 (.ofNat ii)))))
 |_,_,0,_,_,h,_,_=>by omega
 |0,i,k+1,a,hi,_,_,_=>by
  obtain rfl:i=8:=by omega
  rw[YQ (by rw[j.1];omega),show Ez [] (m.drop 8) (n.drop 8)=0 from rfl,Int.add_zero];unfold r6;apply VM
  ·rw[Xc];simp only[Xp,Xq,reduceIte,Nat.reduceEqDiff,x60_1,Zv];rfl
  ·simp only[Xp,reduceIte,Nat.reduceEqDiff,and_self]
 |d+1,i,k+1,a,hi,hk,h1,h2=>by
  obtain⟨w,z⟩:∃w,r[i]? =some w:=⟨_,Zg (by rw[j.1];omega)⟩;obtain⟨e,x⟩:∃e,m[i]? =some e:=⟨_,Zg (by rw[o.1];omega)⟩;obtain⟨f,y⟩:∃f,n[i]? =some f:=⟨_,Zg (by rw[q.1];omega)⟩;have A:=j.2 w (Zt z);have be:=o.2 e (Zt x);have bf:=q.2 f (Zt y);obtain⟨Z,b2⟩:=yO (w:=w) (e:=(e:Int)-(f:Int)) (W:=1000) (X:=65535) A.1 A.2 (by omega) (by omega) (by decide) (by decide);have c:i<8:=by omega
  have g:i<=8:=by omega
  have F:Xe .i64 (.ofNat (i+1))=.ofNat (i+1):=wrap_i64 (by omega);have t: -(((i+1:Nat):Int)*M)<=a+w*(Int.ofNat e-Int.ofNat f):=by
   rw[Int.natCast_add,Int.add_mul];simp only[ZA];omega
  have v:a+w*(Int.ofNat e-Int.ofNat f)<=((i+1:Nat):Int)*M:=by
   rw[Int.natCast_add,Int.add_mul];simp only[ZA];omega
  have P:(i:Int)*M<=8*M:=Int.mul_le_mul_of_nonneg_right (by omega) (by omega);have D:Xe .i64 (Int.ofNat e-Int.ofNat f)=Int.ofNat e-Int.ofNat f:=er (by simp only[ZA];omega) (by simp only[ZA];omega);have H:Xe .i64 (w*(Int.ofNat e-Int.ofNat f))=w*(Int.ofNat e-Int.ofNat f):=er (by simp only[ZA];omega) (by simp only[ZA];omega);have I:Xe .i64 (a+w*(Int.ofNat e-Int.ofNat f))=a+w*(Int.ofNat e-Int.ofNat f):=er (by simp only[ZA];omega) (by simp only[ZA];omega);obtain⟨b,B,J,s,L,N⟩:=aa (E:=E) (K:=K) (l:=l) (len:=len) (ii:=ii) j o q O u G d (i+1) k (a+w*(Int.ofNat e-Int.ofNat f)) (by omega) (by omega) t v;rw[jS z,TV x,TV y];refine⟨b,?_,J,s,by rw[L];simp only[Ez,ZA];rw[Int.add_assoc],N⟩;have S:=jd z;have T:=WL x;have U:=WL y;have Y:=j.1;have Q:=o.1;have R:=q.1;have V:∀C,TR 8 false 1 [.agg (TN r),.one (.p (.int C (.ofNat i)))]=some ⟨.one (.p (.int .i64 w)),[],[],[]⟩:=by
   intro C;simp only[TR,Yf,PF c,Qf (show i<=(TN r).length by rw[Un,Y];omega),YT,cond_true,S,TC,cond_false,W5.pure]
  unfold r6 at B⊢;rw[Xc];simp only[Xp,Xq,reduceIte,Nat.reduceEqDiff,Yf,x60_1,c,g,D,F,H,I,T,U,V,Xa,Q,R];exact B
theorem ft {E:Xb}{K:Nat}{l:PL}{o:List (List Int)}{m n:List Nat}(U:S6 l o)(S:VE o)(C:XL m)(D:XL n)(F:o.length<1000000)(Y:9<=K)(u:Nat):∀(d i k:Nat) (G:List Xz),i+d=o.length->d<k->
  ∃s b A,Xc E K 0 [4,5,15,16,17] x60_2 k ⟨[(4,.one (.ptr 0 0 0 0)),(5,.one (.ptr 1 0 0 0)),(15,.one (.p l)),(16,.one (.p (.int .i64 (.ofNat o.length)))),(17,.one (.p (.int .i64 (.ofNat i))))],⟨false,0,8,[Xm m],false,u⟩::⟨false,0,8,[Xm n],false,u⟩::G⟩=some (s,⟨b,⟨false,0,8,[Xm m],false,u⟩::⟨false,0,8,[Xm n],false,u⟩::A⟩)/\
   ((s=.exit 0/\WQ (o.drop i) m n=Wj m n/\Xh b 4=some (.one (.ptr 0 0 0 0))/\Xh b 5=some (.one (.ptr 1 0 0 0)))\/(s=.ret/\Xh b 6=some (.one (.p (.int .i64 (WQ (o.drop i) m n))))))
 |_,_,0,_,_,h=>by omega
 |0,i,k+1,G,hi,_=>by
  have e:¬i<o.length:=by omega
  rw[YQ (by omega)];have :∃b,Xc E K 0 [4,5,15,16,17] x60_2 (k+1) ⟨[(4,.one (.ptr 0 0 0 0)),(5,.one (.ptr 1 0 0 0)),(15,.one (.p l)),(16,.one (.p (.int .i64 (.ofNat o.length)))),(17,.one (.p (.int .i64 (.ofNat i))))],⟨false,0,8,[Xm m],false,u⟩::⟨false,0,8,[Xm n],false,u⟩::G⟩=some (.exit 0,⟨b,⟨false,0,8,[Xm m],false,u⟩::⟨false,0,8,[Xm n],false,u⟩::G⟩)/\Xh b 4=some (.one (.ptr 0 0 0 0))/\Xh b 5=some (.one (.ptr 1 0 0 0)):=by
   apply VM
   ·rw[Xc];simp only[Xp,Xq,reduceIte,Nat.reduceEqDiff,x60_2,e];rfl
   ·simp only[Xp,reduceIte,Nat.reduceEqDiff,and_self]
  obtain⟨b,g,j,X⟩:=this;exact⟨.exit 0,b,G,g,.inl ⟨rfl,rfl,j,X⟩⟩
 |d+1,i,k+1,G,hi,hk=>by
  have e:i<o.length:=by omega
  obtain⟨r,H⟩:∃r,o[i]? =some r:=⟨_,Zg e⟩;have t:=Zt H;have R:=S r t;have w:=R.1;have T:=C.1;have n8:=D.1;have f:=fun(Z:HF) (kd:IntKind)=>U.idx (h:=Z) (k:=kd) (sz:=8) (c:=Ua r) (i:=i) (by rw[Zx,H];rfl) (by rw[N6,w])
  have W:Xe .i64 (.ofNat (i+1))=.ofNat (i+1):=wrap_i64 (by omega);have V:o.drop i=r::o.drop (i+1):=by
   obtain⟨y,rfl⟩:=Zd.1 H;exact Z7 y
  have O:(TN r).take 8=TN r:=Zb (by rw[Un];omega);have t4:(TN r).drop 8=[]:=Zj (by rw[Un];omega);obtain⟨T1,v,I,q,z,J,L,N⟩:=aa (E:=E) (K:=K) (l:=l) (len:=o.length) (ii:=i) R C D (M:=65535000) rfl u (G++[⟨false,0,8,[TN r],false,50⟩]) 8 0 K 0 (by omega) (by omega) (by simp) (by simp);rw[Ye,Ye,Ye,Int.zero_add,wS (by rw[w,T]) (by rw[T,n8])]at z;unfold r6 at v;rw[show(0:Int)=Int.ofNat 0 from rfl]at v;have P:Qh (TN r)=true:=by
   have :∀r:List Int,Qh (TN r)=true:=by
    intro r;induction r with
    |nil=>rfl
    |cons a r ih=>exact ih
   exact this r
  rw[V];simp only[WQ];by_cases y:wt r m<wt r n
  ·rw[if_pos y];have x:T5 (wt r m-wt r n) (.ofNat 0)=true:=by rw[Tn,decide_eq_true];simp only[ZA];omega
   have :∃b,Xc E K 0 [4,5,15,16,17] x60_2 (k+1) ⟨[(4,.one (.ptr 0 0 0 0)),(5,.one (.ptr 1 0 0 0)),(15,.one (.p l)),(16,.one (.p (.int .i64 (.ofNat o.length)))),(17,.one (.p (.int .i64 (.ofNat i))))],⟨false,0,8,[Xm m],false,u⟩::⟨false,0,8,[Xm n],false,u⟩::G⟩=some (.ret,⟨b,⟨false,0,8,[Xm m],false,u⟩::⟨false,0,8,[Xm n],false,u⟩::(G++[⟨false,0,8,[TN r],false,50⟩])⟩)/\Xh b 6=some (.one (.p (.int .i64 (.negSucc 0)))):=by
    apply VM
    ·rw[Xc];simp only[Xp,Xq,VN,reduceIte,Nat.reduceEqDiff,Nat.reduceLeDiff,Nat.reduceAdd,x60_2,e,f,Nn,Un,w,O,P,v,I,q,z,J,L,N,x];rfl
    ·simp only[Xp,reduceIte,Nat.reduceEqDiff]
   obtain⟨b,g,j⟩:=this;exact⟨.ret,b,_,g,.inr ⟨rfl,j⟩⟩
  ·rw[if_neg y];have x:T5 (wt r m-wt r n) (.ofNat 0)=false:=by rw[Tn,decide_eq_false];simp only[ZA];omega
   by_cases Q:wt r n<wt r m
   ·rw[if_pos Q];have B:T5 (.ofNat 0) (wt r m-wt r n)=true:=by rw[Tn,decide_eq_true];simp only[ZA];omega
    have :∃b,Xc E K 0 [4,5,15,16,17] x60_2 (k+1) ⟨[(4,.one (.ptr 0 0 0 0)),(5,.one (.ptr 1 0 0 0)),(15,.one (.p l)),(16,.one (.p (.int .i64 (.ofNat o.length)))),(17,.one (.p (.int .i64 (.ofNat i))))],⟨false,0,8,[Xm m],false,u⟩::⟨false,0,8,[Xm n],false,u⟩::G⟩=some (.ret,⟨b,⟨false,0,8,[Xm m],false,u⟩::⟨false,0,8,[Xm n],false,u⟩::(G++[⟨false,0,8,[TN r],false,50⟩])⟩)/\Xh b 6=some (.one (.p (.int .i64 (.ofNat 1)))):=by
     apply VM
     ·rw[Xc];simp only[Xp,Xq,VN,reduceIte,Nat.reduceEqDiff,Nat.reduceLeDiff,Nat.reduceAdd,x60_2,e,f,Nn,Un,w,O,P,v,I,q,z,J,L,N,x,B];rfl
     ·simp only[Xp,reduceIte,Nat.reduceEqDiff]
    obtain⟨b,g,j⟩:=this;exact⟨.ret,b,_,g,.inr ⟨rfl,j⟩⟩
   ·rw[if_neg Q];have B:T5 (.ofNat 0) (wt r m-wt r n)=false:=by rw[Tn,decide_eq_false];simp only[ZA];omega
    obtain⟨s,b,A,g,j⟩:=ft (K:=K) U S C D F Y u d (i+1) k (G++[⟨false,0,8,[TN r],false,50⟩]) (by omega) (by omega);refine⟨s,b,A,?_,j⟩;rw[Xc];simp only[Xp,Xq,VN,reduceIte,Nat.reduceEqDiff,Nat.reduceLeDiff,Nat.reduceAdd,x60_2,e,f,Nn,Un,w,O,P,v,I,q,z,J,L,N,x,B,W];exact g
theorem OM {B:Xr}(i:Std B){l:PL}{o:List (List Int)}{m n:List Nat}(v:S6 l o)(C:VE o)(j:XL m)(q:XL n)(r:o.length<1000000):Xs B 60 [.one l,.agg (mo m),.agg (mo n)] (.one (.int .i64 (WQ o m n))):=by
 have A:=Qa i j.1 q.1;have g:=j.1;have h:=q.1;have s:(Xm m).take 8=Xm m:=Zb (by rw[Xa];omega);have t:(Xm n).take 8=Xm n:=Zb (by rw[Xa];omega);have f:=Vt m n (by rw[g,h]);have a:=v.len;rw[Zy]at a;refine Xs.of (i.X6 _ _ rfl) ((A.Xi.and (i.Xi.and (X0.ge (o.length+9)))).mono fun E K ⟨e3,k,H⟩=> ?_);have c:∀(x y:List DL),Vl false .i64 8 [.agg x,.agg y]=(bif Nat.beq x.length 8 then(match Wk .i64 x y with |some b=>some ⟨.one (.p (.bool (b !=false))),[],[],[]⟩|none=>none)else none):=fun x y=>by
  simp only[Vl,W5.pure];cases Wk .i64 x y<;>rfl
 by_cases d:m=n
 ·rw[decide_eq_true d]at f;rw[show WQ o m n=.ofNat 0 by rw[<-d];exact O1 o m];simp only[Xp,Xq,reduceIte,Nat.reduceEqDiff,Nat.reduceLeDiff,Nat.reduceAdd,x60,XS,Xa,g,h,s,t,c,f]
 ·rw[decide_eq_false d]at f;obtain⟨G,F,D,u,e⟩:=ft (E:=E) (K:=K) v C j q r (by omega) 51 o.length 0 K [] (by omega) (by omega);rw[Ye]at e;rcases e with⟨rfl,e,w,z⟩|⟨rfl,e⟩
  ·rw[e];simp only[Xp,Xq,reduceIte,Nat.reduceEqDiff,Nat.reduceLeDiff,Nat.reduceAdd,x60,XS,Xa,g,h,s,t,c,f,a,RN,RK,k,XW,u,w,z,e3]
  ·simp only[Xp,Xq,reduceIte,Nat.reduceEqDiff,Nat.reduceLeDiff,Nat.reduceAdd,x60,XS,Xa,g,h,s,t,c,f,a,u,e]
end Go.Proofs.YtefpgecinlekpaaGreat
