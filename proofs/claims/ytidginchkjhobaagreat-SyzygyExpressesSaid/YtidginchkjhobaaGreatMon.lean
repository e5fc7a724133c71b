/- Monomials: products. -/
import Derived.Test.YtidginchkjhobaaGreatRef
set_option maxHeartbeats 16000000
set_option maxRecDepth 100000
namespace Go.Ev
open Go.Proofs.YtidginchkjhobaaGreat
def mo (m:P'):N':=m.map fun e=>La0 e
theorem SO {m:P'}(h:m.length=8):∃a b c d e f g i,m=[a,b,c,d,e,f,g,i]:=by
 match m,h with
 |[a,b,c,d,e,f,g,i],_=>exact⟨a,b,c,d,e,f,g,i,rfl⟩
theorem w1:Xd .i64 (.ofNat 1)=.ofNat 1/\Xd .i64 (.ofNat 2)=.ofNat 2/\Xd .i64 (.ofNat 3)=.ofNat 3/\Xd .i64 (.ofNat 4)=.ofNat 4/\Xd .i64 (.ofNat 5)=.ofNat 5/\Xd .i64 (.ofNat 6)=.ofNat 6/\Xd .i64 (.ofNat 7)=.ofNat 7/\Xd .i64 (.ofNat 8)=.ofNat 8:=⟨rfl,rfl,rfl,rfl,rfl,rfl,rfl,rfl⟩
def XA (m:P'):Prop:=m.length=8/\∀e∈m,e<=65535
theorem Aa {B:Xq}(n:Std B){m:P'}(y:XA m):Xv B 164 [.agg (mo m)] (.one (.bool true)):=by
 obtain⟨l,j⟩:=y;obtain⟨a,b,c,d,e,f,g,i,rfl⟩:=SO l;simp only[Zk,ZQ,or_false,forall_eq_or_imp,forall_eq]at j;obtain⟨o,p,r,s,t,u,v,w⟩:=j;refine Xv.of (n.Wa _ _ rfl) ((XT.ge 9).mono fun E K z=> ?_);obtain⟨k,rfl⟩:∃k,K=k+9:=⟨K-9,by omega⟩;have q:∀{x:Nat},x<=65535->¬65535<x:=fun h=>by omega
 simp+decide only[Xo,Xs,reduceIte,Nat.reduceAdd,Nat.reduceMul,x164,x164_1,Xb,mo,SL,w1,Nat.not_lt_zero,q o,q p,q r,q s,q t,q u,q v,q w,Vk.pure]
theorem vZ {B:Xq}(n:Std B){m:P'}(y:XA m):Xv B 122 [.agg (mo m)] (.one (.bool true)):=by
 obtain⟨l,j⟩:=y;obtain⟨a,b,c,d,e,f,g,i,rfl⟩:=SO l;simp only[Zk,ZQ,or_false,forall_eq_or_imp,forall_eq]at j;obtain⟨o,p,r,s,t,u,v,w⟩:=j;refine Xv.of (n.Wa _ _ rfl) ((XT.ge 9).mono fun E K z=> ?_);obtain⟨k,rfl⟩:∃k,K=k+9:=⟨K-9,by omega⟩;have q:∀{x:Nat},x<=65535->¬65535<x:=fun h=>by omega
 simp+decide only[Xo,Xs,reduceIte,Nat.reduceAdd,Nat.reduceMul,x122,x122_1,Xb,mo,w1,Nat.not_lt_zero,q o,q p,q r,q s,q t,q u,q v,q w]
theorem fU {B:Xq}(o:Std B){m n:P'}(p:XA m)(D:XA n)(F:XA (Xg m n)):Xv B 130 [.agg (mo m),.agg (mo n)] (.Wd [.agg (mo (Xg m n)),.one (La0 0)]):=by
 have G:=Aa o F;obtain⟨Q,j⟩:=p;obtain⟨R,l⟩:=D;obtain⟨a,b,c,d,e,f,g,i,rfl⟩:=SO Q;obtain⟨S,T,U,V,W,X,Y,i',rfl⟩:=SO R;simp only[Zk,ZQ,or_false,forall_eq_or_imp,forall_eq]at j l;obtain⟨s,t,u,v,w,z,A,C⟩:=j;obtain⟨H,I,J,L,M,N,O,P⟩:=l;refine Xv.of (o.Wa _ _ rfl) ((G.Xk.and (o.Xk.and (XT.ge 9))).mono fun E K ⟨e1,p,Z⟩=> ?_);obtain⟨r,rfl⟩:∃r,K=r+9:=⟨K-9,by omega⟩;have q:∀{x y:Nat},x<=65535->y<=65535->Xd .i64 (.ofNat (x+y))=.ofNat (x+y):=fun h k=>wrap_i64 (by omega)
 simp only[Xg,Zz,ZL,mo,Zt,ZF]at e1⊢;simp+decide only[Xo,Xs,reduceIte,Nat.reduceAdd,Nat.reduceMul,x130,x130_1,Xb,w1,q s H,q t I,q u J,q v L,q w M,q z N,q A O,q C P,p,X3,e1]
theorem pE {B:Xq}(o:Std B){m n:P'}(p:XA m)(D:XA n)(F:XA (Xg m n)):Xv B 90 [.agg (mo m),.agg (mo n)] (.Wd [.agg (mo (Xg m n)),.one (La0 0)]):=by
 have G:=vZ o F;obtain⟨Q,j⟩:=p;obtain⟨R,l⟩:=D;obtain⟨a,b,c,d,e,f,g,i,rfl⟩:=SO Q;obtain⟨S,T,U,V,W,X,Y,i',rfl⟩:=SO R;simp only[Zk,ZQ,or_false,forall_eq_or_imp,forall_eq]at j l;obtain⟨s,t,u,v,w,z,A,C⟩:=j;obtain⟨H,I,J,L,M,N,O,P⟩:=l;refine Xv.of (o.Wa _ _ rfl) ((G.Xk.and (o.Xk.and (XT.ge 9))).mono fun E K ⟨e1,p,Z⟩=> ?_);obtain⟨r,rfl⟩:∃r,K=r+9:=⟨K-9,by omega⟩;have q:∀{x y:Nat},x<=65535->y<=65535->Xd .i64 (.ofNat (x+y))=.ofNat (x+y):=fun h k=>wrap_i64 (by omega)
 simp only[Xg,Zz,ZL,mo,Zt,ZF]at e1⊢;simp+decide only[Xo,Xs,reduceIte,Nat.reduceAdd,Nat.reduceMul,x90,x90_1,Xb,w1,q s H,q t I,q u J,q v L,q w M,q z N,q A O,q C P,p,X3,e1]
def Xu (m:P'):Y':=m.map fun e=>.p (La0 e)
theorem Wj (m):(mo m).map DL.p=Xu m:=by simp[mo,Xu]
theorem Xc (m):(Xu m).length=m.length:=by simp[Xu]
theorem XI (m):(mo m).length=m.length:=by simp[mo]
theorem W5 {m}{i e}(h:m[i]? =some e):(Xu m).drop i=.p (La0 e)::Xu (m.drop (i+1)):=by
 obtain⟨a,rfl⟩:=Zg.1 h;rw[Xu,<-List.map_drop,Z0 a];rfl
theorem SQ {m:P'}{i e:Nat}(h:m[i]? =some e):m.drop i=e::m.drop (i+1):=by
 obtain⟨a,rfl⟩:=Zg.1 h;exact Z0 a
theorem nw {E:Xa}{K:Nat}{m n:P'}(q:m.length=8)(r:n.length=8)(t:Nat):∀(d i k:Nat),i+d=8->d<k->
  ∃b g,Xb E K 0 [2,3,5] x35_1 k ⟨[(2,.one (.ptr 0 0 0 0)),(3,.one (.ptr 1 0 0 0)),(5,La1 i)],[⟨false,0,8,[Xu m],false,t⟩,⟨false,0,8,[Xu n],false,t⟩]⟩=some (b,⟨g,[⟨false,0,8,[Xu m],false,t⟩,⟨false,0,8,[Xu n],false,t⟩]⟩)/\
   ((b=.exit 0/\WS (m.drop i) (n.drop i)=.ofNat 0)\/(b=.ret/\Xi g 4=some (La4 (.int .i64 (WS (m.drop i) (n.drop i))))))
 |_,_,0,_,h=>by omega
 |0,i,k+1,hi,_=>by
  obtain rfl:i=8:=by omega
  refine⟨.exit 0,?_⟩;apply VW
  ·rw[Xb];simp only[Xo,Xs,reduceIte,Nat.reduceEqDiff,x35_1,Zx];rfl
  ·refine .inl ⟨rfl,?_⟩;rw[YA (by omega)];rfl
 |d+1,i,k+1,hi,hk=>by
  obtain⟨e,l⟩:∃e,m[i]? =some e:=⟨_,Zd (by omega)⟩;obtain⟨f,o⟩:∃f,n[i]? =some f:=⟨_,Zd (by omega)⟩;have s:i<8:=by omega
  have a:i<=8:=by omega
  have u:Xd .i64 (.ofNat (i+1))=.ofNat (i+1):=wrap_i64 (by omega);rw[SQ l,SQ o];simp only[WS];by_cases c:e<f
  ·rw[if_pos c];refine⟨.ret,?_⟩;apply VW
   ·rw[Xb];simp only[Xo,Xs,reduceIte,Nat.reduceEqDiff,Z6,x35_1,s,a,W5 l,W5 o,Xc,q,r,c];rfl
   ·exact .inr ⟨rfl,by simp only[Xo,reduceIte,Nat.reduceEqDiff]⟩
  ·rw[if_neg c];by_cases j:f<e
   ·rw[if_pos j];refine⟨.ret,?_⟩;apply VW
    ·rw[Xb];simp only[Xo,Xs,reduceIte,Nat.reduceEqDiff,Z6,x35_1,s,a,W5 l,W5 o,Xc,q,r,c,j];rfl
    ·exact .inr ⟨rfl,by simp only[Xo,reduceIte,Nat.reduceEqDiff]⟩
   ·rw[if_neg j];obtain⟨b,g,v,w⟩:=nw q r t d (i+1) k (by omega) (by omega);refine⟨b,g,?_,w⟩;rw[Xb];simp only[Xo,Xs,reduceIte,Nat.reduceEqDiff,Z6,x35_1,s,a,W5 l,W5 o,Xc,q,r,c,j,u];exact v
theorem Ob {B}(e:Std B){m n}(b:m.length=8)(c:n.length=8):Xv B 35 [.agg (mo m),.agg (mo n)] (.one (.int .i64 (WS m n))):=by
 refine Xv.of (e.Wa _ _ rfl) ((XT.ge 9).mono fun E K h=> ?_);obtain⟨g,f,d,a⟩:=nw (E:=E) (K:=K) b c 73 8 0 K rfl (by omega);rw[Z7,Z7]at a;rcases a with⟨rfl,a⟩|⟨rfl,a⟩
 ·rw[a];simp only[Xo,Xs,reduceIte,Nat.reduceEqDiff,Nat.reduceLeDiff,x35,Wj,Xc,b,c,d]
 ·simp only[Xo,Xs,reduceIte,Nat.reduceEqDiff,Nat.reduceLeDiff,x35,Wj,Xc,b,c,d,a]
theorem UA:∀m n,m.length=n.length->Wl .i64 (Xu m) (Xu n)=some (decide (m=n))
 |[],[],_=>rfl
 |[],_::_,h=>by simp at h
 |_::_,[],h=>by simp at h
 |a::m,b::n,h=>by
  have c:=UA m n (by simpa using h);simp only[Xu]at c;simp only[Xu,Zt,Wl,gG,Eu,Yw,Bool.and_self,cond_true,c,E8,ZG,Zb];by_cases d:a=b<;>by_cases e:m=n<;>simp[d,e]
theorem kJ:∀{m n},m.length=n.length->m≠n->∃p e f:Nat,m[p]? =some e/\n[p]? =some f/\e≠f/\(∀j,j<p->m[j]? =n[j]?)/\WS m n=if e<f then .negSucc 0 else .ofNat 1
 |[],[],_,h=>absurd rfl h
 |[],_::_,h,_=>by simp at h
 |_::_,[],h,_=>by simp at h
 |a::m,b::n,h,hne=>by
  by_cases e:a=b
  ·subst e;obtain⟨p,x,y,c,d,g,i,k⟩:=kJ (m:=m) (n:=n) (by simpa using h) (fun q=>hne (by rw[q]));refine⟨p+1,x,y,by simpa using c,by simpa using d,g,fun j l=> ?_,?_⟩
   ·cases j with
    |zero=>rfl
    |succ j=>simpa using i j (by omega)
   ·simp only[WS,Zx,if_false];exact k
  ·refine⟨0,a,b,rfl,rfl,e,fun j l=>by omega,?_⟩;simp only[WS];split
   ·rfl
   ·rw[if_pos (by omega)]
theorem uW {E}{K}{m n}(c:m.length=8)(q:n.length=8)(t){p e f}(l:m[p]? =some e)(s:n[p]? =some f)(g:e≠f)(r:∀j,j<p->m[j]? =n[j]?):∀d i k,i+d=p->d<k->
  ∃b,Xb E K 0 [2,3,5] x151_1 k ⟨[(2,.one (.ptr 0 0 0 0)),(3,.one (.ptr 1 0 0 0)),(5,La1 i)],[⟨false,0,8,[Xu m],false,t⟩,⟨false,0,8,[Xu n],false,t⟩]⟩=some (.exit 0,⟨b,[⟨false,0,8,[Xu m],false,t⟩,⟨false,0,8,[Xu n],false,t⟩]⟩)/\
   (Xi b 2=some (.one (.ptr 0 0 0 0))/\Xi b 3=some (.one (.ptr 1 0 0 0))/\Xi b 5=some (La1 p))
 |_,_,0,_,h=>by omega
 |0,i,k+1,hi,_=>by
  obtain rfl:i=p:=by omega
  have o:i<8:=by rw[<-c];exact(Zg.1 l).1
  have a:i<=8:=by omega
  apply VW
  ·rw[Xb];simp only[Xo,Xs,reduceIte,Nat.reduceEqDiff,Z6,x151_1,o,a,W5 l,W5 s,Xc,c,q,g];rfl
  ·simp only[Xo,reduceIte,Nat.reduceEqDiff,and_self]
 |d+1,i,k+1,hi,hk=>by
  have A:p<8:=by rw[<-c];exact(Zg.1 l).1
  obtain⟨x,u⟩:∃x,m[i]? =some x:=⟨_,Zd (by omega)⟩;have B:n[i]? =some x:=by rw[<-r i (by omega)];exact u
  have z:i<8:=by omega
  have a:i<=8:=by omega
  have v:Xd .i64 (.ofNat (i+1))=.ofNat (i+1):=wrap_i64 (by omega);obtain⟨b,w,y⟩:=uW (E:=E) (K:=K) c q t l s g r d (i+1) k (by omega) (by omega);refine⟨b,?_,y⟩;rw[Xb];simp only[Xo,Xs,reduceIte,Nat.reduceEqDiff,Z6,x151_1,z,a,W5 u,W5 B,Xc,c,q,v];exact w
theorem Nc {B}(x:Std B){m n}(c:m.length=8)(j:n.length=8):Xv B 151 [.agg (mo m),.agg (mo n)] (.one (.int .i64 (WS m n))):=by
 refine Xv.of (x.Wa _ _ rfl) ((XT.ge 9).mono fun E K z=> ?_);have k:US false .i64 8 [.agg (Xu m),.agg (Xu n)]=some ⟨La4 (.bool (decide (m=n))),[],[],[]⟩:=by
  simp only[US,Xc,c,Yw,cond_true,UA m n (by omega),Vk.pure,Bool.bne_false]
 have g:(Xu m).take 8=Xu m:=Ze (by rw[Xc];omega);have a:(Xu n).take 8=Xu n:=Ze (by rw[Xc];omega);by_cases h:m=n
 ·rw[h,Qj];rw[h]at k;simp only[Xo,Xs,reduceIte,Nat.reduceEqDiff,Nat.reduceLeDiff,x151,Wj,Xc,j,a,k]
 ·obtain⟨p,e,f,i,l,u,v,w⟩:=kJ (by omega) h;have d:p<8:=by rw[<-c];exact(Zg.1 i).1
  have b:p<=8:=by omega
  obtain⟨y,o,q,r,s⟩:=uW (E:=E) (K:=K) c j 73 i l u v p 0 K (by omega) (by omega);rw[w];by_cases t:e<f
  ·simp only[Xo,Xs,reduceIte,Nat.reduceEqDiff,Nat.reduceLeDiff,Z6,x151,Wj,Xc,c,j,g,a,k,h,o,q,r,s,d,b,W5 i,W5 l,t]
  ·simp only[Xo,Xs,reduceIte,Nat.reduceEqDiff,Nat.reduceLeDiff,Z6,x151,Wj,Xc,c,j,g,a,k,h,o,q,r,s,d,b,W5 i,W5 l,t]
def Ww:P'->P'->Bool
 |a::cs,b::bs=>decide (a<=b)&&Ww cs bs
 |_,_=>true
def XM (m n:P'):P':=List.zipWith max m n
def Pb (m n:P'):P':=List.zipWith min m n
def XO (m n:P'):P':=List.zipWith (·- ·) m n
theorem WD:∀{m n},m.length=n.length->Ww m n=true->Xg m (XO n m)=n
 |[],[],_,_=>rfl
 |[],_::_,h,_=>by simp at h
 |_::_,[],h,_=>by simp at h
 |a::m,b::n,h,hd=>by
  simp only[Ww,Zs,decide_eq_true_eq]at hd;have c:=WD (m:=m) (n:=n) (by simpa using h) hd.2
  grind [Xg,XO,Zz]
theorem TW:∀m k,Ww m (Xg m k)=true
 |[],_=>rfl
 |_::_,[]=>rfl
 |a::m,b::k=>by
  have c:=TW m k
  simp_all [Xg,Ww]
theorem TC:∀m n,m.length=n.length->Ww m (XM m n)=true
 |[],[],_=>rfl
 |[],_::_,h=>by simp at h
 |_::_,[],h=>by simp at h
 |a::m,b::n,h=>by
  have c:=TC m n (by simpa using h)
  simp_all [XM,Ww,Nat.le_max_left]
theorem Sv:∀m n,m.length=n.length->Ww n (XM m n)=true
 |[],[],_=>rfl
 |[],_::_,h=>by simp at h
 |_::_,[],h=>by simp at h
 |a::m,b::n,h=>by
  have c:=Sv m n (by simpa using h)
  simp_all [XM,Ww,Nat.le_max_right]
theorem yZ:∀{m n} {e},(∀x∈m,x<=e)->(∀x∈n,x<=e)->∀x∈XM m n,x<=e
 |[],_,_,_,_,x,hx=>by simp[XM]at hx
 |_::_,[],_,_,_,x,hx=>by simp[XM]at hx
 |a::m,b::n,e,h1,h2,x,hx=>by
  unfold XM at hx;rw[Zz]at hx;rcases Zk.1 hx with rfl|hx
  ·grind [Zc]
  ·exact yZ (fun y c=>h1 y (Za _ c)) (fun y c=>h2 y (Za _ c)) x hx
theorem yi:∀{m n} {e},(∀x∈m,x<=e)->∀x∈XO m n,x<=e
 |[],_,_,_,x,hx=>by simp[XO]at hx
 |_::_,[],_,_,x,hx=>by simp[XO]at hx
 |a::m,b::n,e,h1,x,hx=>by
  unfold XO at hx;rw[Zz]at hx;rcases Zk.1 hx with rfl|hx
  ·grind [Zc]
  ·exact yi (fun y c=>h1 y (Za _ c)) x hx
theorem Qz (n)(h):∀m,Xw (XG n h) (Xu m)=some (mo m)
 |[]=>rfl
 |e::m=>by
  have:=Qz n h m
  grind [Xu,mo,Xw,oa]
theorem PD (n)(h):∀m,(Xu m).flatMap (Vt n h)=[]
 |[]=>rfl
 |e::m=>by
  simp_all [Xu,nY]
theorem Ef (a b):Qt S6 [La1 a,La1 b]=some ⟨La1 (max a b),[],[],[]⟩:=by
 simp only[Qt,maxD,bk,show gG .i64 .i64=true from rfl,cond_true,Vk.pure]
 grind
theorem Ee (a b):Qt (fun a b=>S6 b a) [La1 a,La1 b]=some ⟨La1 (min a b),[],[],[]⟩:=by
 simp only[Qt,maxD,bk,show gG .i64 .i64=true from rfl,cond_true,Vk.pure]
 grind
theorem uc {m n}(a:XA m)(b:XA n):XA (XM m n):=⟨by simp[XM,a.1,b.1],yZ a.2 b.2⟩
theorem Tf {m n}(a:XA m)(b:XA n):XA (XO m n):=⟨by simp[XO,a.1,b.1],yi a.2⟩
theorem aI {E:Xa}{K:Nat}{m n:P'}(o:m.length=8)(q:n.length=8)(t:Nat):∀(d i k:Nat),i+d=8->d<k->
  ∃c j,Xb E K 0 [2,3,5] x133_1 k ⟨[(2,.one (.ptr 0 0 0 0)),(3,.one (.ptr 1 0 0 0)),(5,La1 i)],[⟨false,0,8,[Xu m],false,t⟩,⟨false,0,8,[Xu n],false,t⟩]⟩=some (c,⟨j,[⟨false,0,8,[Xu m],false,t⟩,⟨false,0,8,[Xu n],false,t⟩]⟩)/\((c=.exit 0/\Ww (m.drop i) (n.drop i)=true)\/(c=.ret/\Ww (m.drop i) (n.drop i)=false/\Xi j 4=some (La4 (.bool false))))
 |_,_,0,_,h=>by omega
 |0,i,k+1,hi,_=>by
  obtain rfl:i=8:=by omega
  refine⟨.exit 0,?_⟩;apply VW
  ·rw[Xb];simp only[Xo,Xs,reduceIte,Nat.reduceEqDiff,x133_1,Zx];rfl
  ·exact .inl ⟨rfl,by rw[YA (by omega)];rfl⟩
 |d+1,i,k+1,hi,hk=>by
  obtain⟨a,v⟩:∃a,m[i]? =some a:=⟨_,Zd (by omega)⟩;obtain⟨b,w⟩:∃b,n[i]? =some b:=⟨_,Zd (by omega)⟩;have f:i<8:=by omega
  have x:Xd .i64 (.ofNat (i+1))=.ofNat (i+1):=wrap_i64 (by omega);have r:i<=8:=by omega
  have s:=W5 v;have u:=W5 w;rw[SQ v,SQ w];by_cases h:a<=b
  ·obtain⟨c,j,g,y⟩:=aI (E:=E) (K:=K) o q t d (i+1) k (by omega) (by omega);have l:¬b<a:=by omega
   have e:Ww (a::m.drop (i+1)) (b::n.drop (i+1))=Ww (m.drop (i+1)) (n.drop (i+1)):=by grind [Ww]
   rw[e];refine⟨c,j,?_,y⟩;rw[Xb];simp only[Xo,Xs,reduceIte,Nat.reduceEqDiff,Z6,x133_1,f,x,r,s,u,Xc,o,q,l];exact g
  ·have l:b<a:=by omega
   have e:Ww (a::m.drop (i+1)) (b::n.drop (i+1))=false:=by grind [Ww]
   rw[e];refine⟨.ret,?_⟩;apply VW
   ·rw[Xb];simp only[Xo,Xs,reduceIte,Nat.reduceEqDiff,Z6,x133_1,f,r,s,u,Xc,o,q,l];rfl
   ·exact .inr ⟨rfl,rfl,by simp only[Xo,reduceIte]⟩
theorem Oc {B}(g:Std B){m n}(a:m.length=8)(b:n.length=8):Xv B 133 [.agg (mo m),.agg (mo n)] (.one (.bool (Ww m n))):=by
 refine Xv.of (g.Wa _ _ rfl) ((XT.ge 9).mono fun E K j=> ?_);obtain⟨i,h,c,d⟩:=aI (E:=E) (K:=K) a b 73 8 0 K (by omega) (by omega);rw[Z7,Z7]at d;rcases d with⟨rfl,e⟩|⟨rfl,e,f⟩
 ·rw[e];simp only[Xo,Xs,reduceIte,Nat.reduceEqDiff,Nat.reduceLeDiff,Nat.reduceAdd,x133,Wj,Xc,a,b,c]
 ·rw[e];simp only[Xo,Xs,reduceIte,Nat.reduceEqDiff,Nat.reduceLeDiff,Nat.reduceAdd,x133,Wj,Xc,a,b,c,f]
theorem aJ {E:Xa}{K:Nat}{m n:P'}(o:m.length=8)(q:n.length=8)(t:Nat):∀(d i k:Nat),i+d=8->d<k->
  ∃c j,Xb E K 0 [2,3,6] x115_1 k ⟨[(2,.one (.ptr 0 0 0 0)),(3,.one (.ptr 1 0 0 0)),(6,La1 i)],[⟨false,0,8,[Xu m],false,t⟩,⟨false,0,8,[Xu n],false,t⟩]⟩=some (c,⟨j,[⟨false,0,8,[Xu m],false,t⟩,⟨false,0,8,[Xu n],false,t⟩]⟩)/\((c=.exit 0/\Ww (m.drop i) (n.drop i)=true)\/(c=.ret/\Ww (m.drop i) (n.drop i)=false/\Xi j 4=some (La4 (.bool false))))
 |_,_,0,_,h=>by omega
 |0,i,k+1,hi,_=>by
  obtain rfl:i=8:=by omega
  refine⟨.exit 0,?_⟩;apply VW
  ·rw[Xb];simp only[Xo,Xs,reduceIte,Nat.reduceEqDiff,x115_1,Zx];rfl
  ·exact .inl ⟨rfl,by rw[YA (by omega)];rfl⟩
 |d+1,i,k+1,hi,hk=>by
  obtain⟨a,v⟩:∃a,m[i]? =some a:=⟨_,Zd (by omega)⟩;obtain⟨b,w⟩:∃b,n[i]? =some b:=⟨_,Zd (by omega)⟩;have f:i<8:=by omega
  have x:Xd .i64 (.ofNat (i+1))=.ofNat (i+1):=wrap_i64 (by omega);have r:i<=8:=by omega
  have s:=W5 v;have u:=W5 w;rw[SQ v,SQ w];by_cases h:a<=b
  ·obtain⟨c,j,g,y⟩:=aJ (E:=E) (K:=K) o q t d (i+1) k (by omega) (by omega);have l:¬b<a:=by omega
   have e:Ww (a::m.drop (i+1)) (b::n.drop (i+1))=Ww (m.drop (i+1)) (n.drop (i+1)):=by grind [Ww]
   rw[e];refine⟨c,j,?_,y⟩;rw[Xb];simp only[Xo,Xs,reduceIte,Nat.reduceEqDiff,Z6,x115_1,f,x,r,s,u,Xc,o,q,l];exact g
  ·have l:b<a:=by omega
   have e:Ww (a::m.drop (i+1)) (b::n.drop (i+1))=false:=by grind [Ww]
   rw[e];refine⟨.ret,?_⟩;apply VW
   ·rw[Xb];simp only[Xo,Xs,reduceIte,Nat.reduceEqDiff,Z6,x115_1,f,r,s,u,Xc,o,q,l];rfl
   ·exact .inr ⟨rfl,rfl,by simp only[Xo,reduceIte]⟩
theorem cu {B}(g:Std B){m n}(a:m.length=8)(b:n.length=8):Xv B 115 [.agg (mo m),.agg (mo n)] (.one (.bool (Ww m n))):=by
 refine Xv.of (g.Wa _ _ rfl) ((XT.ge 9).mono fun E K j=> ?_);obtain⟨i,h,c,d⟩:=aJ (E:=E) (K:=K) a b 73 8 0 K (by omega) (by omega);rw[Z7,Z7]at d;rcases d with⟨rfl,e⟩|⟨rfl,e,f⟩
 ·rw[e];simp only[Xo,Xs,reduceIte,Nat.reduceEqDiff,Nat.reduceLeDiff,Nat.reduceAdd,x115,Wj,Xc,a,b,c]
 ·rw[e];simp only[Xo,Xs,reduceIte,Nat.reduceEqDiff,Nat.reduceLeDiff,Nat.reduceAdd,x115,Wj,Xc,a,b,c,f]
theorem Di {B:Xq}(l:Std B){m n:P'}(p:XA m)(q:XA n):Xv B 108 [.agg (mo m),.agg (mo n)] (.agg (mo (XM m n))):=by
 obtain⟨r,h⟩:=p;obtain⟨s,j⟩:=q;obtain⟨a,b,c,d,e,f,g,i,rfl⟩:=SO r;obtain⟨t,u,v,x,A,I,J,V,rfl⟩:=SO s;simp only[Zk,ZQ,or_false,forall_eq_or_imp,forall_eq]at h j;obtain⟨M,N,O,P,Q,S,T,U⟩:=h;obtain⟨W,X,Y,Z,ke,kf,kg,ki⟩:=j;refine Xv.of (l.Wa _ _ rfl) (((XT.ge 9)).mono fun E K L=> ?_);obtain⟨k,rfl⟩:∃k,K=k+9:=⟨K-9,by omega⟩;simp only[XM,Zz,ZL,mo,Zt,ZF];obtain⟨w,lK,oD,oS,oR,z,y,e1,e2,C,D,F,G,H,o,R⟩:=SZ;simp+decide only[TP,R,o,Xs,reduceIte,Nat.reduceAdd,Nat.reduceMul,x108,x108_1,w1,Ef]
theorem jA {B:Xq}(l:Std B){m n:P'}(p:XA m)(q:XA n):Xv B 63 [.agg (mo m),.agg (mo n)] (.agg (mo (XM m n))):=by
 obtain⟨r,h⟩:=p;obtain⟨s,j⟩:=q;obtain⟨a,b,c,d,e,f,g,i,rfl⟩:=SO r;obtain⟨t,u,v,x,A,I,J,V,rfl⟩:=SO s;simp only[Zk,ZQ,or_false,forall_eq_or_imp,forall_eq]at h j;obtain⟨M,N,O,P,Q,S,T,U⟩:=h;obtain⟨W,X,Y,Z,ke,kf,kg,ki⟩:=j;refine Xv.of (l.Wa _ _ rfl) (((XT.ge 9)).mono fun E K L=> ?_);obtain⟨k,rfl⟩:∃k,K=k+9:=⟨K-9,by omega⟩;simp only[XM,Zz,ZL,mo,Zt,ZF];obtain⟨w,lK,oD,oS,oR,z,y,e1,e2,C,D,F,G,H,o,R⟩:=SZ;simp+decide only[TP,R,o,Xs,reduceIte,Nat.reduceAdd,Nat.reduceMul,x63,x63_1,w1,Ef]
theorem AL {B:Xq}(l:Std B){m n:P'}(p:XA m)(q:XA n):Xv B 87 [.agg (mo m),.agg (mo n)] (.agg (mo (Pb m n))):=by
 obtain⟨r,h⟩:=p;obtain⟨s,j⟩:=q;obtain⟨a,b,c,d,e,f,g,i,rfl⟩:=SO r;obtain⟨t,u,v,x,A,I,J,V,rfl⟩:=SO s;simp only[Zk,ZQ,or_false,forall_eq_or_imp,forall_eq]at h j;obtain⟨M,N,O,P,Q,S,T,U⟩:=h;obtain⟨W,X,Y,Z,ke,kf,kg,ki⟩:=j;refine Xv.of (l.Wa _ _ rfl) (((XT.ge 9)).mono fun E K L=> ?_);obtain⟨k,rfl⟩:∃k,K=k+9:=⟨K-9,by omega⟩;simp only[Pb,Zz,ZL,mo,Zt,ZF];obtain⟨w,lK,oD,oS,oR,z,y,e1,e2,C,D,F,G,H,o,R⟩:=SZ;simp+decide only[TP,R,o,Xs,reduceIte,Nat.reduceAdd,Nat.reduceMul,x87,x87_1,w1,Ee]
theorem eB {B:Xq}(l:Std B){m n:P'}(p:XA m)(q:XA n):Xv B 97 [.agg (mo m),.agg (mo n)] (.agg (mo (Pb m n))):=by
 obtain⟨r,h⟩:=p;obtain⟨s,j⟩:=q;obtain⟨a,b,c,d,e,f,g,i,rfl⟩:=SO r;obtain⟨t,u,v,x,A,I,J,V,rfl⟩:=SO s;simp only[Zk,ZQ,or_false,forall_eq_or_imp,forall_eq]at h j;obtain⟨M,N,O,P,Q,S,T,U⟩:=h;obtain⟨W,X,Y,Z,ke,kf,kg,ki⟩:=j;refine Xv.of (l.Wa _ _ rfl) (((XT.ge 9)).mono fun E K L=> ?_);obtain⟨k,rfl⟩:∃k,K=k+9:=⟨K-9,by omega⟩;simp only[Pb,Zz,ZL,mo,Zt,ZF];obtain⟨w,lK,oD,oS,oR,z,y,e1,e2,C,D,F,G,H,o,R⟩:=SZ;simp+decide only[TP,R,o,Xs,reduceIte,Nat.reduceAdd,Nat.reduceMul,x97,x97_1,w1,Ee]
theorem jl {B:Xq}(r:Std B){m n:P'}(v:XA m)(w:XA n)(j:Ww n m=true):Xv B 136 [.agg (mo m),.agg (mo n)] (.Wd [.agg (mo (XO m n)),.one (.bool true)]):=by
 have z:=Oc r w.1 v.1;rw[j]at z;have l:=j;clear j;obtain⟨U,o⟩:=v;obtain⟨V,p⟩:=w;obtain⟨a,b,c,d,e,f,g,i,rfl⟩:=SO U;obtain⟨W,X,Y,d',e',f',g',i',rfl⟩:=SO V;simp only[Zk,ZQ,or_false,forall_eq_or_imp,forall_eq]at o p;obtain⟨M,N,O,j,P,Q,S,T⟩:=o;obtain⟨ka,kb,kc,kd,ke,kf,kg,ki⟩:=p;simp only[Ww,Zs,decide_eq_true_eq,and_true]at l;obtain⟨A,C,D,F,G,H,I,J⟩:=l;refine Xv.of (r.Wa _ _ rfl) (((XT.ge 9).and (z.Xk.and r.Xk)).mono fun E K ⟨hK,u,s⟩=> ?_);obtain⟨t,rfl⟩:∃t,K=t+9:=⟨K-9,by omega⟩;simp only[XO,Zz,ZL,mo,Zt,ZF]at u⊢;have q:∀{x y:Nat},y<=x->x<=65535->Xd .i64 (.ofNat x-.ofNat y)=.ofNat (x-y):=fun h k=>X9 h (by omega)
 obtain⟨Z,lK,oD,oS,oR,dS,dD,e1,e2,e3,e4,e5,e6,e7,L,R⟩:=SZ;simp+decide only[TP,R,L,Xs,reduceIte,Nat.reduceAdd,Nat.reduceMul,x136,x136_1,w1,s,X3,u,q A M,q C N,q D O,q F j,q G P,q H Q,q I S,q J T]
theorem O5 {B:Xq}(r:Std B){m n:P'}(v:XA m)(w:XA n)(j:Ww n m=true):Xv B 62 [.agg (mo m),.agg (mo n)] (.Wd [.agg (mo (XO m n)),.one (.bool true)]):=by
 have z:=cu r w.1 v.1;rw[j]at z;have l:=j;clear j;obtain⟨U,o⟩:=v;obtain⟨V,p⟩:=w;obtain⟨a,b,c,d,e,f,g,i,rfl⟩:=SO U;obtain⟨W,X,Y,d',e',f',g',i',rfl⟩:=SO V;simp only[Zk,ZQ,or_false,forall_eq_or_imp,forall_eq]at o p;obtain⟨M,N,O,j,P,Q,S,T⟩:=o;obtain⟨ka,kb,kc,kd,ke,kf,kg,ki⟩:=p;simp only[Ww,Zs,decide_eq_true_eq,and_true]at l;obtain⟨A,C,D,F,G,H,I,J⟩:=l;refine Xv.of (r.Wa _ _ rfl) (((XT.ge 9).and (z.Xk.and r.Xk)).mono fun E K ⟨hK,u,s⟩=> ?_);obtain⟨t,rfl⟩:∃t,K=t+9:=⟨K-9,by omega⟩;simp only[XO,Zz,ZL,mo,Zt,ZF]at u⊢;have q:∀{x y:Nat},y<=x->x<=65535->Xd .i64 (.ofNat x-.ofNat y)=.ofNat (x-y):=fun h k=>X9 h (by omega)
 obtain⟨Z,lK,oD,oS,oR,dS,dD,e1,e2,e3,e4,e5,e6,e7,L,R⟩:=SZ;simp+decide only[TP,R,L,Xs,reduceIte,Nat.reduceAdd,Nat.reduceMul,x62,x62_1,w1,s,X3,u,q A M,q C N,q D O,q F j,q G P,q H Q,q I S,q J T]
theorem AR {B}(b:Std B){m n}(d:XA m)(f:XA n)(i:Ww n m=false):Xv B 62 [.agg (mo m),.agg (mo n)] (.Wd [.agg (mo [0,0,0,0,0,0,0,0]),.one (.bool false)]):=by
 have g:=cu b f.1 d.1;rw[i]at g;refine Xv.of (b.Wa _ _ rfl) ((g.Xk.and b.Xk).mono fun E K ⟨h,c⟩=> ?_);have j:=d.1;have k:=f.1;have l:(Xu m).take 8=Xu m:=Ze (by rw[Xc];omega);have o:(Xu n).take 8=Xu n:=Ze (by rw[Xc];omega);simp only[mo,Zt,ZF];have a:=h;simp only[Xo,Xs,reduceIte,Nat.reduceEqDiff,Nat.reduceLeDiff,Nat.reduceAdd,x62,show(List.map (fun e=>PL.int IntKind.i64 (Int.ofNat e)) m).map DL.p=Xu m from Wj m,show(List.map (fun e=>PL.int IntKind.i64 (Int.ofNat e)) n).map DL.p=Xu n from Wj n,Xc,j,k,l,o,Qz,PD,c,X3,a]
def wt:U'->P'->Int
 |r::rs,e::es=>r*(e:Int)+wt rs es
 |_,_=>0
def WY:M'->P'->P'->Int
 |[],m,n=>WS m n
 |r::o,m,n=>if wt r m<wt r n then .negSucc 0 else if wt r n<wt r m then .ofNat 1 else WY o m n
theorem PN:∀o m,WY o m m=.ofNat 0
 |[],m=>Qj m
 |r::o,m=>by simp only[WY,Int.lt_irrefl,if_false];exact PN o m
def xQ (r:U'):Prop:=r.length=8/\∀w∈r,-1000<=w/\w<=1000
def Vq (o:M'):Prop:=∀r∈o,xQ r
theorem Eb {w}{e}{W X}(c: -W<=w)(d:w<=W)(f: -X<=e)(g:e<=X)(h:0<=W)(i:0<=X): -(W*X)<=w*e/\w*e<=W*X:=by
 have a:w.natAbs<=W.natAbs:=by omega
 have b:e.natAbs<=X.natAbs:=by omega
 have:=ZA a b;rw[<-Yp,<-Yp]at this
 grind [Int.mul_nonneg]
theorem iB {z}(a: -9223372036854775808<=z)(b:z<9223372036854775808):Xd .i64 z=z:=by
 cases z with
 |ofNat n=>grind [wrap_i64]
 |negSucc n=>
  show U6 .i64 (W4 .i64 (.negSucc n))=_;have c:n<9223372036854775808:=by omega
  have e:W4 .i64 (.negSucc n)=18446744073709551615-n:=by
   show(18446744073709551616-1)-n%18446744073709551616=_;omega
  rw[e];show(bif true&&Nat.ble (18446744073709551616 / 2) (18446744073709551615-n)then Int.negSucc (18446744073709551616-(18446744073709551615-n)-1)else _)=_
  grind [PU]
theorem Ru (x y):S6 x y=decide (x<y):=by
 cases x with
 |ofNat a=>cases y with
  |ofNat b=>grind [bk]
  |negSucc b=>show false=_;grind
 |negSucc a=>cases y with
  |ofNat b=>show true=_;grind
  |negSucc b=>
   show Nat.blt b a=_
   grind [dB]
def Vx (r:U'):N':=r.map fun z=>.int .i64 z
def RB (r:U'):Y':=r.map fun z=>.p (.int .i64 z)
theorem aU (r):(Vx r).map DL.p=RB r:=by simp[Vx,RB]
theorem UQ (r):(RB r).length=r.length:=by simp[RB]
theorem bY (r):(Vx r).length=r.length:=by simp[Vx]
theorem nu {r}{i}{w}(h:r[i]? =some w):(RB r).drop i=.p (.int .i64 w)::RB (r.drop (i+1)):=by
 obtain⟨a,rfl⟩:=Zg.1 h
 grind [RB,List.map_drop,Z0]
theorem cS (n)(h):∀r,Xw (XG n h) (RB r)=some (Vx r)
 |[]=>rfl
 |e::r=>by
  have:=cS n h r
  grind [RB,Vx,Xw,oa]
theorem ky (n)(h):∀r,(RB r).flatMap (Vt n h)=[]
 |[]=>rfl
 |e::r=>by
  simp_all [RB,nY]
def SA (l:PL)(o:M'):Prop:=Sl l (o.map Vx)
theorem ov {r:U'}{i:Nat}{w:Int}(h:r[i]? =some w):r.drop i=w::r.drop (i+1):=by grind [Z0]
theorem fJ {E:Xa}{K:Nat}{r:U'}{m:P'}(c:xQ r)(g:XA m)(t u:Nat){M:Int}(A:M=65535000):∀(d i k:Nat) (a:Int),i+d=8->d<k->-((i:Int)*M)<=a->a<=(i:Int)*M->
  ∃f,Xb E K 0 [2,3,5,6] x135_1 k ⟨[(2,.one (.ptr 0 0 0 0)),(3,.one (.ptr 1 0 0 0)),(5,La4 (.int .i64 a)),(6,La1 i)],[⟨false,0,8,[RB r],false,t⟩,⟨false,0,8,[Xu m],false,u⟩]⟩=some (.exit 0,⟨f,[⟨false,0,8,[RB r],false,t⟩,⟨false,0,8,[Xu m],false,u⟩]⟩)/\Xi f 5=some (La4 (.int .i64 (a+wt (r.drop i) (m.drop i))))
 |_,_,0,_,_,h,_,_=>by omega
 |0,i,k+1,a,hi,_,_,_=>by
  obtain rfl:i=8:=by omega
  rw[YA (by rw[c.1];omega),show wt [] (m.drop 8)=0 from rfl,Int.add_zero];apply VW
  ·rw[Xb];simp only[Xo,Xs,reduceIte,Nat.reduceEqDiff,x135_1,Zx];rfl
  ·simp only[Xo,reduceIte,Nat.reduceEqDiff]
 |d+1,i,k+1,a,hi,hk,h1,h2=>by
  obtain⟨w,q⟩:∃w,r[i]? =some w:=⟨_,Zd (by rw[c.1];omega)⟩;obtain⟨e,n⟩:∃e,m[i]? =some e:=⟨_,Zd (by rw[g.1];omega)⟩;have s:=c.2 w (Zh q);have J:=g.2 e (Zh n);obtain⟨H,I⟩:=Eb (w:=w) (e:=(e:Int)) (W:=1000) (X:=65535) s.1 s.2 (by omega) (by omega) (by decide) (by decide);have o:i<8:=by omega
  have b:i<=8:=by omega
  have v:Xd .i64 (.ofNat (i+1))=.ofNat (i+1):=wrap_i64 (by omega);have j: -(((i+1:Nat):Int)*M)<=a+w*Int.ofNat e:=by
   grind
  have l:a+w*Int.ofNat e<=((i+1:Nat):Int)*M:=by
   grind
  have B:(i:Int)*M<=8*M:=Int.mul_le_mul_of_nonneg_right (by omega) (by omega);have x:Xd .i64 (w*Int.ofNat e)=w*Int.ofNat e:=iB (by grind) (by grind);have y:Xd .i64 (a+w*Int.ofNat e)=a+w*Int.ofNat e:=iB (by grind) (by grind);obtain⟨f,z,L⟩:=fJ (E:=E) (K:=K) c g t u A d (i+1) k (a+w*Int.ofNat e) (by omega) (by omega) j l;rw[ov q,SQ n];refine⟨f,?_,by grind [wt]⟩;have D:=nu q;have F:=W5 n;have G:=c.1;have C:=g.1;rw[Xb];simp only[Xo,Xs,reduceIte,Nat.reduceEqDiff,Z6,x135_1,o,b,v,x,y,D,F,UQ,Xc,G,C];exact z
theorem iC {B:Xq}(e:Std B){r:U'}{m:P'}(d:xQ r)(c:XA m):Xv B 135 [.agg (Vx r),.agg (mo m)] (.one (.int .i64 (wt r m))):=by
 refine Xv.of (e.Wa _ _ rfl) ((XT.ge 9).mono fun E K i=> ?_);obtain⟨h,a,b⟩:=fJ (E:=E) (K:=K) d c 69 73 rfl 8 0 K 0 (by omega) (by omega) (by simp) (by simp);rw[Z7,Z7,Int.zero_add]at b;have g:=d.1;have f:=c.1;rw[show(0:Int)=Int.ofNat 0 from rfl]at a;simp only[Xo,Xs,reduceIte,Nat.reduceEqDiff,Nat.reduceLeDiff,Nat.reduceAdd,x135,Wj,Xc,aU,UQ,g,f,a,b]
theorem jr {E}{K}{l}{o}{m n}(g:E.mode=md)(x:SA l o)(M:Vq o)(J:XA m)(L:XA n)(z:o.length<1000000)(u)
  (s:∀r∈o,E.pure 135 [.agg (Vx r),.agg (mo m)]=some (.one (.int .i64 (wt r m)))) (t:∀r∈o,E.pure 135 [.agg (Vx r),.agg (mo n)]=some (.one (.int .i64 (wt r n)))):∀d i k,i+d=o.length->d<k->
  ∃q j,Xb E K 0 [0,4,5,7] x85_1 k ⟨[(0,La4 l),(4,.one (.ptr 0 0 0 0)),(5,.one (.ptr 1 0 0 0)),(7,La1 i)],[⟨false,0,8,[Xu m],false,u⟩,⟨false,0,8,[Xu n],false,u⟩]⟩=some (q,⟨j,[⟨false,0,8,[Xu m],false,u⟩,⟨false,0,8,[Xu n],false,u⟩]⟩)/\
   ((q=.exit 0/\WY (o.drop i) m n=WS m n/\Xi j 4=some (.one (.ptr 0 0 0 0))/\Xi j 5=some (.one (.ptr 1 0 0 0)))\/(q=.ret/\Xi j 6=some (La4 (.int .i64 (WY (o.drop i) m n)))))
 |_,_,0,_,h=>by omega
 |0,i,k+1,hi,_=>by
  have b:¬i<o.length:=by omega
  have a:=x.len;rw[ZP]at a;refine⟨.exit 0,?_⟩;rw[YA (by omega)];apply VW
  ·rw[Xb];simp only[Xo,Xs,reduceIte,Nat.reduceEqDiff,x85_1,a,b];rfl
  ·exact .inl ⟨rfl,rfl,by simp only[Xo,reduceIte,Nat.reduceEqDiff],by simp only[Xo,reduceIte,Nat.reduceEqDiff]⟩
 |d+1,i,k+1,hi,hk=>by
  have b:i<o.length:=by omega
  have a:=x.len;rw[ZP]at a;obtain⟨r,S⟩:∃r,o[i]? =some r:=⟨_,Zd b⟩;have f:=Zh S;have w:=(M r f).1;have A:=J.1;have B:=L.1;have e:=fun(R:HF) (T:IntKind)=>x.idx (h:=R) (k:=T) (sz:=8) (c:=Vx r) (i:=i) (by grind) (by rw[bY,w])
  have w1:=s r f;have G:=t r f;have O:Xd .i64 (.ofNat (i+1))=.ofNat (i+1):=wrap_i64 (by omega);have N:o.drop i=r::o.drop (i+1):=by
   grind [Z0]
  have C:(Xu m).take 8=Xu m:=Ze (by rw[Xc];omega);have D:(Xu n).take 8=Xu n:=Ze (by rw[Xc];omega);have F:(RB r).take 8=RB r:=Ze (by rw[UQ];omega);rw[N];simp only[WY];by_cases H:wt r m<wt r n
  ·rw[if_pos H];have v:S6 (wt r m) (wt r n)=true:=by grind [Ru]
   refine⟨.ret,?_⟩;apply VW
   ·rw[Xb];simp only[Xo,Xs,reduceIte,Nat.reduceEqDiff,Nat.reduceLeDiff,x85_1,a,b,e,Xc,aU,UQ,w,A,B,C,D,F,Qz,PD,cS,ky,g,X3,w1,G,v];rfl
   ·exact .inr ⟨rfl,by simp only[Xo,reduceIte,Nat.reduceEqDiff]⟩
  ·rw[if_neg H];have v:S6 (wt r m) (wt r n)=false:=by grind [Ru]
   by_cases I:wt r n<wt r m
   ·rw[if_pos I];have y:S6 (wt r n) (wt r m)=true:=by grind [Ru]
    refine⟨.ret,?_⟩;apply VW
    ·rw[Xb];simp only[Xo,Xs,reduceIte,Nat.reduceEqDiff,Nat.reduceLeDiff,x85_1,a,b,e,Xc,aU,UQ,w,A,B,C,D,F,Qz,PD,cS,ky,g,X3,w1,G,v,y];rfl
    ·exact .inr ⟨rfl,by simp only[Xo,reduceIte,Nat.reduceEqDiff]⟩
   ·rw[if_neg I];have y:S6 (wt r n) (wt r m)=false:=by grind
    obtain⟨q,j,P,Q⟩:=jr (K:=K) g x M J L z u s t d (i+1) k (by omega) (by omega);refine⟨q,j,?_,Q⟩;rw[Xb];simp only[Xo,Xs,reduceIte,Nat.reduceEqDiff,Nat.reduceLeDiff,x85_1,a,b,e,Xc,aU,UQ,w,A,B,C,D,F,Qz,PD,cS,ky,g,X3,w1,G,v,y,O];exact P
theorem UG {B:Xq}{c:Type}{p:c->Xa->Nat->Prop}:∀{l:List c},(∀x∈l,XT B (p x))->XT B fun E K=>∀x∈l,p x E K
 |[],_=>XT.of fun _ _ _ h=>by cases h
 |a::l,h=>((h a (Zc ..)).and (UG fun x b=>h x (Za _ b))).mono fun E K ⟨d,e⟩ x b=>by
  grind
theorem ny {B:Xq}(b:Std B){l:PL}{o:M'}{m n:P'}(w:SA l o)(f:Vq o)(d:XA m)(e:XA n)(g:o.length<1000000):Xv B 85 [.one l,.agg (mo m),.agg (mo n)] (.one (.int .i64 (WY o m n))):=by
 have i:XT B fun E _=>∀r∈o,E.pure 135 [.agg (Vx r),.agg (mo m)]=some (.one (.int .i64 (wt r m))):=UG fun r h=>(iC b (f r h) d).Xk
 have j:XT B fun E _=>∀r∈o,E.pure 135 [.agg (Vx r),.agg (mo n)]=some (.one (.int .i64 (wt r n))):=UG fun r h=>(iC b (f r h) e).Xk
 have v:=Ob b d.1 e.1;refine Xv.of (b.Wa _ _ rfl) ((i.and (j.and (v.Xk.and (b.Xk.and (XT.ge (o.length+1)))))).mono fun E K ⟨e1,e2,s,c,C⟩=> ?_);obtain⟨A,z,k,a⟩:=jr (K:=K) c w f d e g 73 e1 e2 o.length 0 K (by omega) (by omega);rw[Z7]at a;have p:=d.1;have q:=e.1;have x:(Xu m).take 8=Xu m:=Ze (by rw[Xc];omega);have y:(Xu n).take 8=Xu n:=Ze (by rw[Xc];omega);rcases a with⟨rfl,a,t,u⟩|⟨rfl,a⟩
 ·rw[a];simp only[Xo,Xs,reduceIte,Nat.reduceEqDiff,Nat.reduceLeDiff,Nat.reduceAdd,x85,Wj,Xc,p,q,x,y,Qz,PD,c,X3,k,t,u,s]
 ·simp only[Xo,Xs,reduceIte,Nat.reduceEqDiff,Nat.reduceLeDiff,Nat.reduceAdd,x85,Wj,Xc,p,q,k,a]
def KC:U'->P'->P'->Int
 |r::rs,a::as1,b::bs=>r*((a:Int)-(b:Int))+KC rs as1 bs
 |_,_,_=>0
theorem Cr:∀{r} {m n},r.length=m.length->m.length=n.length->KC r m n=wt r m-wt r n
 |[],[],[],_,_=>rfl
 |[],_::_,_,h,_=>by simp at h
 |_::_,[],_,h,_=>by simp at h
 |_,[],_::_,_,h=>by simp at h
 |_,_::_,[],_,h=>by simp at h
 |w::r,a::m,b::n,h1,h2=>by
  have c:=Cr (r:=r) (m:=m) (n:=n) (by simpa using h1) (by simpa using h2)
  grind [KC,wt]
def x0 (l:PL)(len i:Nat)(acc:Int)(r:U')(j:Nat):List (Nat×DV):=[(4,.one (.ptr 0 0 0 0)),(5,.one (.ptr 1 0 0 0)),(9,La4 (.int .i64 acc)),(15,La4 l),(16,La1 len),(17,La1 i),(21,.agg (RB r)),(22,La1 j)]
theorem cm {E:Xa}{K:Nat}{l:PL}{len ii:Nat}{r:U'}{m n:P'}(g:xQ r)(j:XA m)(o:XA n){M:Int}(L:M=65535000)(u:Nat)(G:V'):∀(d i k:Nat) (a:Int),i+d=8->d<k->-((i:Int)*M)<=a->a<=(i:Int)*M->
  ∃b,Xb E K 0 [4,5,9,15,16,17,21,22] x114_1 k ⟨x0 l len ii a r i,⟨false,0,8,[Xu m],false,u⟩::⟨false,0,8,[Xu n],false,u⟩::G⟩=some (.exit 2,⟨b,⟨false,0,8,[Xu m],false,u⟩::⟨false,0,8,[Xu n],false,u⟩::G⟩)/\(Xi b 4=some (.one (.ptr 0 0 0 0))/\Xi b 5=some (.one (.ptr 1 0 0 0))/\Xi b 9=some (La4 (.int .i64 (a+KC (r.drop i) (m.drop i) (n.drop i))))/\Xi b 15=some (La4 l)/\Xi b 16=some (La1 len)/\Xi b 17=some (La1 ii))
 |_,_,0,_,_,h,_,_=>by omega
 |0,i,k+1,a,hi,_,_,_=>by
  obtain rfl:i=8:=by omega
  rw[YA (by rw[g.1];omega),show KC [] (m.drop 8) (n.drop 8)=0 from rfl,Int.add_zero];unfold x0;apply VW
  ·rw[Xb];simp only[Xo,Xs,reduceIte,Nat.reduceEqDiff,x114_1,Zx];rfl
  ·simp only[Xo,reduceIte,Nat.reduceEqDiff,and_self]
 |d+1,i,k+1,a,hi,hk,h1,h2=>by
  obtain⟨w,z⟩:∃w,r[i]? =some w:=⟨_,Zd (by rw[g.1];omega)⟩;obtain⟨e,v⟩:∃e,m[i]? =some e:=⟨_,Zd (by rw[j.1];omega)⟩;obtain⟨f,x⟩:∃f,n[i]? =some f:=⟨_,Zd (by rw[o.1];omega)⟩;have A:=g.2 w (Zh z);have Y:=j.2 e (Zh v);have Z:=o.2 f (Zh x);obtain⟨U,V⟩:=Eb (w:=w) (e:=(e:Int)-(f:Int)) (W:=1000) (X:=65535) A.1 A.2 (by omega) (by omega) (by decide) (by decide);have y:i<8:=by omega
  have c:i<=8:=by omega
  have D:Xd .i64 (.ofNat (i+1))=.ofNat (i+1):=wrap_i64 (by omega);have s: -(((i+1:Nat):Int)*M)<=a+w*(Int.ofNat e-Int.ofNat f):=by
   grind
  have t:a+w*(Int.ofNat e-Int.ofNat f)<=((i+1:Nat):Int)*M:=by
   grind
  have N:(i:Int)*M<=8*M:=Int.mul_le_mul_of_nonneg_right (by omega) (by omega);have C:Xd .i64 (Int.ofNat e-Int.ofNat f)=Int.ofNat e-Int.ofNat f:=iB (by grind) (by grind);have F:Xd .i64 (w*(Int.ofNat e-Int.ofNat f))=w*(Int.ofNat e-Int.ofNat f):=iB (by grind) (by grind);have H:Xd .i64 (a+w*(Int.ofNat e-Int.ofNat f))=a+w*(Int.ofNat e-Int.ofNat f):=iB (by grind) (by grind);obtain⟨b,B,I,q,g3,J⟩:=cm (E:=E) (K:=K) (l:=l) (len:=len) (ii:=ii) g j o L u G d (i+1) k (a+w*(Int.ofNat e-Int.ofNat f)) (by omega) (by omega) s t;rw[ov z,SQ v,SQ x];refine⟨b,?_,I,q,by grind [KC],J⟩;have q1:=nu z;have R:=W5 v;have S:=W5 x;have r8:=g.1;have P:=j.1;have Q:=o.1;have T:∀O,SL 8 false 1 [.agg (RB r),La4 (.int O (.ofNat i))]=some ⟨La4 (.int .i64 w),[],[],[]⟩:=by
   simp_all [SL,aP,PU,UQ,Sr,Vk.pure]
  unfold x0 at B⊢;rw[Xb];simp only[Xo,Xs,reduceIte,Nat.reduceEqDiff,Z6,x114_1,y,c,C,D,F,H,R,S,T,Xc,P,Q];exact B
theorem jC {E:Xa}{K:Nat}{l:PL}{o:M'}{m n:P'}(T:SA l o)(R:Vq o)(B:XA m)(C:XA n)(D:o.length<1000000)(X:9<=K)(u:Nat):∀(d i k:Nat) (G:V'),i+d=o.length->d<k->
  ∃j b x,Xb E K 0 [4,5,15,16,17] x114_2 k ⟨[(4,.one (.ptr 0 0 0 0)),(5,.one (.ptr 1 0 0 0)),(15,La4 l),(16,La1 o.length),(17,La1 i)],⟨false,0,8,[Xu m],false,u⟩::⟨false,0,8,[Xu n],false,u⟩::G⟩=some (j,⟨b,⟨false,0,8,[Xu m],false,u⟩::⟨false,0,8,[Xu n],false,u⟩::x⟩)/\
   ((j=.exit 0/\WY (o.drop i) m n=WS m n/\Xi b 4=some (.one (.ptr 0 0 0 0))/\Xi b 5=some (.one (.ptr 1 0 0 0)))\/(j=.ret/\Xi b 6=some (La4 (.int .i64 (WY (o.drop i) m n)))))
 |_,_,0,_,_,h=>by omega
 |0,i,k+1,G,hi,_=>by
  have e:¬i<o.length:=by omega
  rw[YA (by omega)];have :∃b,Xb E K 0 [4,5,15,16,17] x114_2 (k+1) ⟨[(4,.one (.ptr 0 0 0 0)),(5,.one (.ptr 1 0 0 0)),(15,La4 l),(16,La1 o.length),(17,La1 i)],⟨false,0,8,[Xu m],false,u⟩::⟨false,0,8,[Xu n],false,u⟩::G⟩=some (.exit 0,⟨b,⟨false,0,8,[Xu m],false,u⟩::⟨false,0,8,[Xu n],false,u⟩::G⟩)/\Xi b 4=some (.one (.ptr 0 0 0 0))/\Xi b 5=some (.one (.ptr 1 0 0 0)):=by
   apply VW
   ·rw[Xb];simp only[Xo,Xs,reduceIte,Nat.reduceEqDiff,x114_2,e];rfl
   ·simp only[Xo,reduceIte,Nat.reduceEqDiff,and_self]
  obtain⟨b,z,A,W⟩:=this;exact⟨.exit 0,b,G,z,.inl ⟨rfl,rfl,A,W⟩⟩
 |d+1,i,k+1,G,hi,hk=>by
  have e:i<o.length:=by omega
  obtain⟨r,Z⟩:∃r,o[i]? =some r:=⟨_,Zd e⟩;have q:=Zh Z;have Q:=R r q;have t:=Q.1;have S:=B.1;have n8:=C.1;have f:=fun(Y:HF) (kd:IntKind)=>T.idx (h:=Y) (k:=kd) (sz:=8) (c:=Vx r) (i:=i) (by grind) (by rw[bY,t])
  have V:Xd .i64 (.ofNat (i+1))=.ofNat (i+1):=wrap_i64 (by omega);have U:o.drop i=r::o.drop (i+1):=by
   grind [Z0]
  have L:(RB r).take 8=RB r:=Ze (by rw[UQ];omega);have t4:(RB r).drop 8=[]:=Zo (by rw[UQ];omega);obtain⟨T1,s,F,g,w,H,I,J⟩:=cm (E:=E) (K:=K) (l:=l) (len:=o.length) (ii:=i) Q B C (M:=65535000) rfl u (G++[⟨false,0,8,[RB r],false,69⟩]) 8 0 K 0 (by omega) (by omega) (by simp) (by simp);rw[Z7,Z7,Z7,Int.zero_add,Cr (by rw[t,S]) (by rw[S,n8])]at w;unfold x0 at s;rw[show(0:Int)=Int.ofNat 0 from rfl]at s;have N:Wi (RB r)=true:=by
   have :∀r:U',Wi (RB r)=true:=by
    intro r;induction r with
    |nil=>rfl
    |cons a r ih=>exact ih
   exact this r
  rw[U];simp only[WY];by_cases O:wt r m<wt r n
  ·rw[if_pos O];have v:S6 (wt r m-wt r n) (.ofNat 0)=true:=by grind [Ru]
   have :∃b,Xb E K 0 [4,5,15,16,17] x114_2 (k+1) ⟨[(4,.one (.ptr 0 0 0 0)),(5,.one (.ptr 1 0 0 0)),(15,La4 l),(16,La1 o.length),(17,La1 i)],⟨false,0,8,[Xu m],false,u⟩::⟨false,0,8,[Xu n],false,u⟩::G⟩=some (.ret,⟨b,⟨false,0,8,[Xu m],false,u⟩::⟨false,0,8,[Xu n],false,u⟩::(G++[⟨false,0,8,[RB r],false,69⟩])⟩)/\Xi b 6=some (La4 (.int .i64 (.negSucc 0))):=by
    apply VW
    ·rw[Xb];simp only[Xo,Xs,VD,reduceIte,Nat.reduceEqDiff,Nat.reduceLeDiff,Nat.reduceAdd,x114_2,e,f,aU,UQ,t,L,N,s,F,g,w,H,I,J,v];rfl
    ·simp only[Xo,reduceIte,Nat.reduceEqDiff]
   grind
  ·rw[if_neg O];have v:S6 (wt r m-wt r n) (.ofNat 0)=false:=by grind [Ru]
   by_cases P:wt r n<wt r m
   ·rw[if_pos P];have y:S6 (.ofNat 0) (wt r m-wt r n)=true:=by grind [Ru]
    have :∃b,Xb E K 0 [4,5,15,16,17] x114_2 (k+1) ⟨[(4,.one (.ptr 0 0 0 0)),(5,.one (.ptr 1 0 0 0)),(15,La4 l),(16,La1 o.length),(17,La1 i)],⟨false,0,8,[Xu m],false,u⟩::⟨false,0,8,[Xu n],false,u⟩::G⟩=some (.ret,⟨b,⟨false,0,8,[Xu m],false,u⟩::⟨false,0,8,[Xu n],false,u⟩::(G++[⟨false,0,8,[RB r],false,69⟩])⟩)/\Xi b 6=some (La1 1):=by
     apply VW
     ·rw[Xb];simp only[Xo,Xs,VD,reduceIte,Nat.reduceEqDiff,Nat.reduceLeDiff,Nat.reduceAdd,x114_2,e,f,aU,UQ,t,L,N,s,F,g,w,H,I,J,v,y];rfl
     ·simp only[Xo,reduceIte,Nat.reduceEqDiff]
    grind
   ·rw[if_neg P];have y:S6 (.ofNat 0) (wt r m-wt r n)=false:=by grind
    obtain⟨j,b,x,z,A⟩:=jC (K:=K) T R B C D X u d (i+1) k (G++[⟨false,0,8,[RB r],false,69⟩]) (by omega) (by omega);refine⟨j,b,x,?_,A⟩;rw[Xb];simp only[Xo,Xs,VD,reduceIte,Nat.reduceEqDiff,Nat.reduceLeDiff,Nat.reduceAdd,x114_2,e,f,aU,UQ,t,L,N,s,F,g,w,H,I,J,v,y,V];exact z
theorem N6 {B}(i:Std B){l}{o}{m n}(v:SA l o)(D:Vq o)(j:XA m)(q:XA n)(r:o.length<1000000):Xv B 114 [.one l,.agg (mo m),.agg (mo n)] (.one (.int .i64 (WY o m n))):=by
 have C:=Nc i j.1 q.1;have g:=j.1;have h:=q.1;have s:(Xu m).take 8=Xu m:=Ze (by rw[Xc];omega);have t:(Xu n).take 8=Xu n:=Ze (by rw[Xc];omega);have e:=UA m n (by rw[g,h]);have a:=v.len;rw[ZP]at a;refine Xv.of (i.Wa _ _ rfl) ((C.Xk.and (i.Xk.and (XT.ge (o.length+9)))).mono fun E K ⟨w,k,I⟩=> ?_);have c:∀(x y:Y'),US false .i64 8 [.agg x,.agg y]=(bif Nat.beq x.length 8 then(match Wl .i64 x y with |some b=>some ⟨La4 (.bool (b !=false)),[],[],[]⟩|none=>none)else none):=fun x y=>by
  grind [US,Vk.pure]
 by_cases f:m=n
 ·rw[decide_eq_true f]at e;rw[show WY o m n=.ofNat 0 by grind [PN]];simp only[Xo,Xs,reduceIte,Nat.reduceEqDiff,Nat.reduceLeDiff,Nat.reduceAdd,x114,Wj,Xc,g,h,s,t,c,e]
 ·rw[decide_eq_false f]at e;obtain⟨H,G,F,u,d⟩:=jC (E:=E) (K:=K) v D j q r (by omega) 73 o.length 0 K [] (by omega) (by omega);rw[Z7]at d;rcases d with⟨rfl,d,z,A⟩|⟨rfl,d⟩
  ·rw[d];simp only[Xo,Xs,reduceIte,Nat.reduceEqDiff,Nat.reduceLeDiff,Nat.reduceAdd,x114,Wj,Xc,g,h,s,t,c,e,a,Qz,PD,k,X3,u,z,A,w]
  ·simp only[Xo,Xs,reduceIte,Nat.reduceEqDiff,Nat.reduceLeDiff,Nat.reduceAdd,x114,Wj,Xc,g,h,s,t,c,e,a,u,d]
