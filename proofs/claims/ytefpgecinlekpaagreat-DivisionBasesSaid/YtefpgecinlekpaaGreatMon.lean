/- Monomials: products. -/
import Derived.Test.YtefpgecinlekpaaGreatRef
set_option maxHeartbeats 16000000
set_option maxRecDepth 100000
namespace Go.Proofs.YtefpgecinlekpaaGreat
open Go.Ev Go.Num
def mo (m:List Nat):List PL:=m.map fun e=>.int .i64 (.ofNat e)
theorem Sx {m:List Nat}(h:m.length=8):∃a b c d e f g i,m=[a,b,c,d,e,f,g,i]:=by
 match m,h with
 |[a,b,c,d,e,f,g,i],_=>exact⟨a,b,c,d,e,f,g,i,rfl⟩
theorem w1:Xd .i64 (.ofNat 1)=.ofNat 1/\Xd .i64 (.ofNat 2)=.ofNat 2/\Xd .i64 (.ofNat 3)=.ofNat 3/\Xd .i64 (.ofNat 4)=.ofNat 4/\Xd .i64 (.ofNat 5)=.ofNat 5/\Xd .i64 (.ofNat 6)=.ofNat 6/\Xd .i64 (.ofNat 7)=.ofNat 7/\Xd .i64 (.ofNat 8)=.ofNat 8:=⟨rfl,rfl,rfl,rfl,rfl,rfl,rfl,rfl⟩
def XF (m:List Nat):Prop:=m.length=8/\∀e∈m,e<=65535
theorem valid_ret {B:Base}(hB:Std B){m:List Nat}(hm:XF m):Ret B 94 [.agg (mo m)] (.one (.bool true)):=by
 obtain⟨h8,hle⟩:=hm
 obtain⟨a,b,c,d,e,f,g,i,rfl⟩:=Sx h8
 simp only[Zk,Yk,or_false,forall_eq_or_imp,forall_eq]at hle
 obtain⟨ha,hb,hc,hd,he,hf,hg,hi⟩:=hle
 refine Ret.of (hB.tab _ _ rfl) ((Evt.ge 9).mono fun E K hK=> ?_)
 obtain⟨K',rfl⟩:∃K',K=K'+9:=⟨K-9,by omega⟩
 have q:∀{x:Nat},x<=65535->¬65535<x:=fun h=>by omega
 simp(decide:=true)only[EVS,EVN,reduceIte,Nat.reduceAdd,Nat.reduceMul,x94,x94_1,Xa,mo,Us,w1,Nat.not_lt_zero,q ha,q hb,q hc,q hd,q he,q hf,q hg,q hi,Res.pure]
theorem rvalid_ret {B:Base}(hB:Std B){m:List Nat}(hm:XF m):Ret B 74 [.agg (mo m)] (.one (.bool true)):=by
 obtain⟨h8,hle⟩:=hm
 obtain⟨a,b,c,d,e,f,g,i,rfl⟩:=Sx h8
 simp only[Zk,Yk,or_false,forall_eq_or_imp,forall_eq]at hle
 obtain⟨ha,hb,hc,hd,he,hf,hg,hi⟩:=hle
 refine Ret.of (hB.tab _ _ rfl) ((Evt.ge 9).mono fun E K hK=> ?_)
 obtain⟨K',rfl⟩:∃K',K=K'+9:=⟨K-9,by omega⟩
 have q:∀{x:Nat},x<=65535->¬65535<x:=fun h=>by omega
 simp(decide:=true)only[EVS,EVN,reduceIte,Nat.reduceAdd,Nat.reduceMul,x74,x74_1,Xa,mo,w1,Nat.not_lt_zero,q ha,q hb,q hc,q hd,q he,q hf,q hg,q hi]
theorem monoMul_ret {B:Base}(hB:Std B){m n:List Nat}(hm:XF m)(hn:XF n)(hs:XF (Xh m n)):Ret B 59 [.agg (mo m),.agg (mo n)] (.tup [.agg (mo (Xh m n)),.one (.int .i64 (.ofNat 0))]):=by
 have hv:=valid_ret hB hs
 obtain⟨m8,hm2⟩:=hm
 obtain⟨n8,hn2⟩:=hn
 obtain⟨a,b,c,d,e,f,g,i,rfl⟩:=Sx m8
 obtain⟨a',b',c',d',e',f',g',i',rfl⟩:=Sx n8
 simp only[Zk,Yk,or_false,forall_eq_or_imp,forall_eq]at hm2 hn2
 obtain⟨ha,hb,hc,hd,he,hf,hg,hi⟩:=hm2
 obtain⟨ka,kb,kc,kd,ke,kf,kg,ki⟩:=hn2
 refine Ret.of (hB.tab _ _ rfl) ((hv.evt.and (hB.evt.and (Evt.ge 9))).mono fun E K ⟨e1,hm,hK⟩=> ?_)
 obtain⟨K',rfl⟩:∃K',K=K'+9:=⟨K-9,by omega⟩
 have q:∀{x y:Nat},x<=65535->y<=65535->Xd .i64 (.ofNat (x+y))=.ofNat (x+y):=fun h k=>wrap_i64 (by omega)
 simp only[Xh,ZG,List.zipWith_nil_right,mo,Zx,ZZ]at e1⊢
 simp(decide:=true)only[EVS,EVN,reduceIte,Nat.reduceAdd,Nat.reduceMul,x59,x59_1,Xa,w1,q ha ka,q hb kb,q hc kc,q hd kd,q he ke,q hf kf,q hg kg,q hi ki,hm,MDS,e1]
theorem rmonoMul_ret {B:Base}(hB:Std B){m n:List Nat}(hm:XF m)(hn:XF n)(hs:XF (Xh m n)):Ret B 120 [.agg (mo m),.agg (mo n)] (.tup [.agg (mo (Xh m n)),.one (.int .i64 (.ofNat 0))]):=by
 have hv:=rvalid_ret hB hs
 obtain⟨m8,hm2⟩:=hm
 obtain⟨n8,hn2⟩:=hn
 obtain⟨a,b,c,d,e,f,g,i,rfl⟩:=Sx m8
 obtain⟨a',b',c',d',e',f',g',i',rfl⟩:=Sx n8
 simp only[Zk,Yk,or_false,forall_eq_or_imp,forall_eq]at hm2 hn2
 obtain⟨ha,hb,hc,hd,he,hf,hg,hi⟩:=hm2
 obtain⟨ka,kb,kc,kd,ke,kf,kg,ki⟩:=hn2
 refine Ret.of (hB.tab _ _ rfl) ((hv.evt.and (hB.evt.and (Evt.ge 9))).mono fun E K ⟨e1,hm,hK⟩=> ?_)
 obtain⟨K',rfl⟩:∃K',K=K'+9:=⟨K-9,by omega⟩
 have q:∀{x y:Nat},x<=65535->y<=65535->Xd .i64 (.ofNat (x+y))=.ofNat (x+y):=fun h k=>wrap_i64 (by omega)
 simp only[Xh,ZG,List.zipWith_nil_right,mo,Zx,ZZ]at e1⊢
 simp(decide:=true)only[EVS,EVN,reduceIte,Nat.reduceAdd,Nat.reduceMul,x120,x120_1,Xa,w1,q ha ka,q hb kb,q hc kc,q hd kd,q he ke,q hf kf,q hg kg,q hi ki,hm,MDS,e1]
def moD (m:List Nat):List DL:=m.map fun e=>.p (.int .i64 (.ofNat e))
theorem XT (m:List Nat):(mo m).map DL.p=moD m:=by simp[mo,moD]
theorem Xb (m:List Nat):(moD m).length=m.length:=by simp[moD]
theorem Xt (m:List Nat):(mo m).length=m.length:=by simp[mo]
theorem Wl {m:List Nat}{i e:Nat}(h:m[i]? =some e):(moD m).drop i=.p (.int .i64 (.ofNat e))::moD (m.drop (i+1)):=by
 obtain⟨h1,rfl⟩:=Zb.1 h
 rw[moD,<-List.map_drop,Z1 h1];rfl
theorem SH {m:List Nat}{i e:Nat}(h:m[i]? =some e):m.drop i=e::m.drop (i+1):=by
 obtain⟨h1,rfl⟩:=Zb.1 h
 exact Z1 h1
theorem rcmp_loop {E:Oracle}{K:Nat}{m n:List Nat}(hm:m.length=8)(hn:n.length=8)(t:Nat):∀(d i k:Nat),i+d=8->d<k->
  ∃ex T',Xa E K 0 [2,3,5] x38_1 k ⟨[(2,.one (.ptr 0 0 0 0)),(3,.one (.ptr 1 0 0 0)),(5,.one (.p (.int .i64 (.ofNat i))))],[⟨false,0,8,[moD m],false,t⟩,⟨false,0,8,[moD n],false,t⟩]⟩=some (ex,⟨T',[⟨false,0,8,[moD m],false,t⟩,⟨false,0,8,[moD n],false,t⟩]⟩)/\
   ((ex=.exit 0/\XW (m.drop i) (n.drop i)=.ofNat 0)\/(ex=.ret/\Xf T' 4=some (.one (.p (.int .i64 (XW (m.drop i) (n.drop i)))))))
 |_,_,0,_,h=>by omega
 |0,i,k+1,hi,_=>by
  obtain rfl:i=8:=by omega
  refine⟨.exit 0,?_⟩
  apply ex1
  ·rw[Xa]
   simp only[EVS,EVN,reduceIte,Nat.reduceEqDiff,x38_1,ZA]
   rfl
  ·refine .inl ⟨rfl,?_⟩
   rw[List.drop_of_length_le (by omega)];rfl
 |d+1,i,k+1,hi,hk=>by
  obtain⟨e,he⟩:∃e,m[i]? =some e:=⟨_,Zf (by omega)⟩
  obtain⟨f,hf⟩:∃f,n[i]? =some f:=⟨_,Zf (by omega)⟩
  have h8:i<8:=by omega
  have h8':i<=8:=by omega
  have f1:Xd .i64 (.ofNat (i+1))=.ofNat (i+1):=wrap_i64 (by omega)
  rw[SH he,SH hf]
  simp only[XW]
  by_cases h1:e<f
  ·rw[if_pos h1]
   refine⟨.ret,?_⟩
   apply ex1
   ·rw[Xa]
    simp only[EVS,EVN,reduceIte,Nat.reduceEqDiff,Yd,x38_1,h8,h8',Wl he,Wl hf,Xb,hm,hn,h1]
    rfl
   ·exact .inr ⟨rfl,by simp only[EVS,reduceIte,Nat.reduceEqDiff]⟩
  ·rw[if_neg h1]
   by_cases h2:f<e
   ·rw[if_pos h2]
    refine⟨.ret,?_⟩
    apply ex1
    ·rw[Xa]
     simp only[EVS,EVN,reduceIte,Nat.reduceEqDiff,Yd,x38_1,h8,h8',Wl he,Wl hf,Xb,hm,hn,h1,h2]
     rfl
    ·exact .inr ⟨rfl,by simp only[EVS,reduceIte,Nat.reduceEqDiff]⟩
   ·rw[if_neg h2]
    obtain⟨ex,T',g1,g2⟩:=rcmp_loop hm hn t d (i+1) k (by omega) (by omega)
    refine⟨ex,T',?_,g2⟩
    rw[Xa]
    simp only[EVS,EVN,reduceIte,Nat.reduceEqDiff,Yd,x38_1,h8,h8',Wl he,Wl hf,Xb,hm,hn,h1,h2,f1]
    exact g1
theorem rmonoCmp_ret {B:Base}(hB:Std B){m n:List Nat}(hm:m.length=8)(hn:n.length=8):Ret B 38 [.agg (mo m),.agg (mo n)] (.one (.int .i64 (XW m n))):=by
 refine Ret.of (hB.tab _ _ rfl) ((Evt.ge 9).mono fun E K hK=> ?_)
 obtain⟨ex,T',g1,g2⟩:=rcmp_loop (E:=E) (K:=K) hm hn 51 8 0 K rfl (by omega)
 rw[Yh,Yh]at g2
 rcases g2 with⟨rfl,g2⟩|⟨rfl,g2⟩
 ·rw[g2]
  simp only[EVS,EVN,reduceIte,Nat.reduceEqDiff,Nat.reduceLeDiff,x38,XT,Xb,hm,hn,g1]
 ·simp only[EVS,EVN,reduceIte,Nat.reduceEqDiff,Nat.reduceLeDiff,x38,XT,Xb,hm,hn,g1,g2]
theorem SF:∀(m n:List Nat),m.length=n.length->XO .i64 (moD m) (moD n)=some (decide (m=n))
 |[],[],_=>rfl
 |[],_::_,h=>by simp at h
 |_::_,[],h=>by simp at h
 |a::m,b::n,h=>by
  have ih:=SF m n (by simpa using h)
  simp only[moD]at ih
  simp only[moD,Zx,XO,keq,kidx,YH,Bool.and_self,cond_true,ih,eqF_nn,ZI,Za]
  by_cases h1:a=b<;>by_cases h2:m=n<;>simp[h1,h2]
theorem first_diff:∀{m n:List Nat},m.length=n.length->m≠n->∃p e f:Nat,m[p]? =some e/\n[p]? =some f/\e≠f/\(∀j,j<p->m[j]? =n[j]?)/\XW m n=if e<f then .negSucc 0 else .ofNat 1
 |[],[],_,h=>absurd rfl h
 |[],_::_,h,_=>by simp at h
 |_::_,[],h,_=>by simp at h
 |a::m,b::n,h,hne=>by
  by_cases e:a=b
  ·subst e
   obtain⟨p,x,y,h1,h2,h3,h4,h5⟩:=first_diff (m:=m) (n:=n) (by simpa using h) (fun q=>hne (by rw[q]))
   refine⟨p+1,x,y,by simpa using h1,by simpa using h2,h3,fun j hj=> ?_,?_⟩
   ·cases j with
    |zero=>rfl
    |succ j=>simpa using h4 j (by omega)
   ·simp only[XW,ZA,if_false];exact h5
  ·refine⟨0,a,b,rfl,rfl,e,fun j hj=>by omega,?_⟩
   simp only[XW]
   split
   ·rfl
   ·rw[if_pos (by omega)]
theorem cmp_loop {E:Oracle}{K:Nat}{m n:List Nat}(hm:m.length=8)(hn:n.length=8)(t:Nat){p e f:Nat}(hp:m[p]? =some e)(hq:n[p]? =some f)(hne:e≠f)(hj:∀j,j<p->m[j]? =n[j]?):∀(d i k:Nat),i+d=p->d<k->
  ∃T',Xa E K 0 [2,3,5] x95_1 k ⟨[(2,.one (.ptr 0 0 0 0)),(3,.one (.ptr 1 0 0 0)),(5,.one (.p (.int .i64 (.ofNat i))))],[⟨false,0,8,[moD m],false,t⟩,⟨false,0,8,[moD n],false,t⟩]⟩=some (.exit 0,⟨T',[⟨false,0,8,[moD m],false,t⟩,⟨false,0,8,[moD n],false,t⟩]⟩)/\
   (Xf T' 2=some (.one (.ptr 0 0 0 0))/\Xf T' 3=some (.one (.ptr 1 0 0 0))/\Xf T' 5=some (.one (.p (.int .i64 (.ofNat p)))))
 |_,_,0,_,h=>by omega
 |0,i,k+1,hi,_=>by
  obtain rfl:i=p:=by omega
  have hi8:i<8:=by rw[<-hm];exact(Zb.1 hp).1
  have h8':i<=8:=by omega
  apply ex1
  ·rw[Xa]
   simp only[EVS,EVN,reduceIte,Nat.reduceEqDiff,Yd,x95_1,hi8,h8',Wl hp,Wl hq,Xb,hm,hn,hne]
   rfl
  ·simp only[EVS,reduceIte,Nat.reduceEqDiff,and_self]
 |d+1,i,k+1,hi,hk=>by
  have hp8:p<8:=by rw[<-hm];exact(Zb.1 hp).1
  obtain⟨x,hx⟩:∃x,m[i]? =some x:=⟨_,Zf (by omega)⟩
  have hy:n[i]? =some x:=by rw[<-hj i (by omega)];exact hx
  have h8:i<8:=by omega
  have h8':i<=8:=by omega
  have f1:Xd .i64 (.ofNat (i+1))=.ofNat (i+1):=wrap_i64 (by omega)
  obtain⟨T',g1,g2⟩:=cmp_loop (E:=E) (K:=K) hm hn t hp hq hne hj d (i+1) k (by omega) (by omega)
  refine⟨T',?_,g2⟩
  rw[Xa]
  simp only[EVS,EVN,reduceIte,Nat.reduceEqDiff,Yd,x95_1,h8,h8',Wl hx,Wl hy,Xb,hm,hn,f1]
  exact g1
theorem TT {B:Base}(hB:Std B){m n:List Nat}(hm:m.length=8)(hn:n.length=8):Ret B 95 [.agg (mo m),.agg (mo n)] (.one (.int .i64 (XW m n))):=by
 refine Ret.of (hB.tab _ _ rfl) ((Evt.ge 9).mono fun E K hK=> ?_)
 have hq:WY false .i64 8 [.agg (moD m),.agg (moD n)]=some ⟨.one (.p (.bool (decide (m=n)))),[],[],[]⟩:=by
  simp only[WY,Xb,hm,YH,cond_true,SF m n (by omega),Res.pure,Bool.bne_false]
 have ht1:(moD m).take 8=moD m:=Ze (by rw[Xb];omega)
 have ht2:(moD n).take 8=moD n:=Ze (by rw[Xb];omega)
 by_cases h:m=n
 ·rw[h,UR]
  rw[h]at hq
  simp only[EVS,EVN,reduceIte,Nat.reduceEqDiff,Nat.reduceLeDiff,x95,XT,Xb,hn,ht2,hq]
 ·obtain⟨p,e,f,h1,h2,h3,h4,h5⟩:=first_diff (by omega) h
  have hp8:p<8:=by rw[<-hm];exact(Zb.1 h1).1
  have h8':p<=8:=by omega
  obtain⟨T',g1,g2,g3,g4⟩:=cmp_loop (E:=E) (K:=K) hm hn 51 h1 h2 h3 h4 p 0 K (by omega) (by omega)
  rw[h5]
  by_cases lt:e<f
  ·simp only[EVS,EVN,reduceIte,Nat.reduceEqDiff,Nat.reduceLeDiff,Yd,x95,XT,Xb,hm,hn,ht1,ht2,hq,h,g1,g2,g3,g4,hp8,h8',Wl h1,Wl h2,lt]
  ·simp only[EVS,EVN,reduceIte,Nat.reduceEqDiff,Nat.reduceLeDiff,Yd,x95,XT,Xb,hm,hn,ht1,ht2,hq,h,g1,g2,g3,g4,hp8,h8',Wl h1,Wl h2,lt]
end Go.Proofs.YtefpgecinlekpaaGreat
namespace Go.Num
def XU:List Nat->List Nat->Bool
 |a::as,b::bs=>decide (a<=b)&&XU as bs
 |_,_=>true
def X2 (m n:List Nat):List Nat:=List.zipWith max m n
def gcdM (m n:List Nat):List Nat:=List.zipWith min m n
def Wv (m n:List Nat):List Nat:=List.zipWith (·- ·) m n
theorem Uy:∀{m n:List Nat},m.length=n.length->XU m n=true->Xh m (Wv n m)=n
 |[],[],_,_=>rfl
 |[],_::_,h,_=>by simp at h
 |_::_,[],h,_=>by simp at h
 |a::m,b::n,h,hd=>by
  simp only[XU,Zo,decide_eq_true_eq]at hd
  have ih:=Uy (m:=m) (n:=n) (by simpa using h) hd.2
  unfold Xh Wv at ih⊢
  rw[ZG,ZG,ih,show a+(b-a)=b by omega]
theorem divL_sum:∀(m k:List Nat),XU m (Xh m k)=true
 |[],_=>rfl
 |_::_,[]=>rfl
 |a::m,b::k=>by
  have ih:=divL_sum m k
  unfold Xh at ih⊢
  simp only[ZG,XU,ih,Bool.and_true,decide_eq_true_eq];omega
theorem SJ:∀(m n:List Nat),m.length=n.length->XU m (X2 m n)=true
 |[],[],_=>rfl
 |[],_::_,h=>by simp at h
 |_::_,[],h=>by simp at h
 |a::m,b::n,h=>by
  have ih:=SJ m n (by simpa using h)
  unfold X2 at ih⊢
  simp only[ZG,XU,ih,Bool.and_true,decide_eq_true_eq];exact Nat.le_max_left ..
theorem SI:∀(m n:List Nat),m.length=n.length->XU n (X2 m n)=true
 |[],[],_=>rfl
 |[],_::_,h=>by simp at h
 |_::_,[],h=>by simp at h
 |a::m,b::n,h=>by
  have ih:=SI m n (by simpa using h)
  unfold X2 at ih⊢
  simp only[ZG,XU,ih,Bool.and_true,decide_eq_true_eq];exact Nat.le_max_right ..
theorem lcmM_ok:∀{m n:List Nat} {e:Nat},(∀x∈m,x<=e)->(∀x∈n,x<=e)->∀x∈X2 m n,x<=e
 |[],_,_,_,_,x,hx=>by simp[X2]at hx
 |_::_,[],_,_,_,x,hx=>by simp[X2]at hx
 |a::m,b::n,e,h1,h2,x,hx=>by
  unfold X2 at hx
  rw[ZG]at hx
  rcases Zk.1 hx with rfl|hx
  ·exact Nat.max_le.2 ⟨h1 a (Zh ..),h2 b (Zh ..)⟩
  ·exact lcmM_ok (fun y hy=>h1 y (Zc _ hy)) (fun y hy=>h2 y (Zc _ hy)) x hx
theorem subM_ok:∀{m n:List Nat} {e:Nat},(∀x∈m,x<=e)->∀x∈Wv m n,x<=e
 |[],_,_,_,x,hx=>by simp[Wv]at hx
 |_::_,[],_,_,x,hx=>by simp[Wv]at hx
 |a::m,b::n,e,h1,x,hx=>by
  unfold Wv at hx
  rw[ZG]at hx
  rcases Zk.1 hx with rfl|hx
  ·have:=h1 a (Zh ..);omega
  ·exact subM_ok (fun y hy=>h1 y (Zc _ hy)) x hx
end Go.Num
namespace Go.Proofs.YtefpgecinlekpaaGreat
open Go.Ev Go.Num
theorem frz_moD' (n:Nat)(h:HF):∀(m:List Nat),Xl (Xn n h) (moD m)=some (mo m)
 |[]=>rfl
 |e::m=>by
  have:=frz_moD' n h m
  simp only[moD,mo]at this
  simp only[moD,mo,Zx,Xl,frzL0,this]
theorem ids_moD' (n:Nat)(h:HF):∀(m:List Nat),(moD m).flatMap (Wt n h)=[]
 |[]=>rfl
 |e::m=>by
  have:=ids_moD' n h m
  simp only[moD]at this
  simp only[moD,Zx,Yv,idsL0,this,ZO]
theorem max_nn (a b:Nat):Uc ltF [.one (.p (.int .i64 (.ofNat a))),.one (.p (.int .i64 (.ofNat b)))]=some ⟨.one (.p (.int .i64 (.ofNat (max a b)))),[],[],[]⟩:=by
 simp only[Uc,maxD,ltF_nn,show keq .i64 .i64=true from rfl,cond_true,Res.pure]
 by_cases h:a<b
 ·rw[decide_eq_true h,cond_true,Nat.max_eq_right (Nat.le_of_lt h)]
 ·rw[decide_eq_false h,cond_false,Nat.max_eq_left (by omega)]
theorem min_nn (a b:Nat):Uc (fun a b=>ltF b a) [.one (.p (.int .i64 (.ofNat a))),.one (.p (.int .i64 (.ofNat b)))]=some ⟨.one (.p (.int .i64 (.ofNat (min a b)))),[],[],[]⟩:=by
 simp only[Uc,maxD,ltF_nn,show keq .i64 .i64=true from rfl,cond_true,Res.pure]
 by_cases h:b<a
 ·rw[decide_eq_true h,cond_true,Nat.min_eq_right (Nat.le_of_lt h)]
 ·rw[decide_eq_false h,cond_false,Yg (by omega)]
theorem lcmM_mok {m n:List Nat}(hm:XF m)(hn:XF n):XF (X2 m n):=⟨by simp[X2,hm.1,hn.1],lcmM_ok hm.2 hn.2⟩
theorem subM_mok {m n:List Nat}(hm:XF m)(hn:XF n):XF (Wv m n):=⟨by simp[Wv,hm.1,hn.1],subM_ok hm.2⟩
theorem pdivides_loop {E:Oracle}{K:Nat}{m n:List Nat}(hm:m.length=8)(hn:n.length=8)(t:Nat):∀(d i k:Nat),i+d=8->d<k->
  ∃ex T',Xa E K 0 [2,3,6] x139_1 k ⟨[(2,.one (.ptr 0 0 0 0)),(3,.one (.ptr 1 0 0 0)),(6,.one (.p (.int .i64 (.ofNat i))))],[⟨false,0,8,[moD m],false,t⟩,⟨false,0,8,[moD n],false,t⟩]⟩=some (ex,⟨T',[⟨false,0,8,[moD m],false,t⟩,⟨false,0,8,[moD n],false,t⟩]⟩)/\((ex=.exit 0/\XU (m.drop i) (n.drop i)=true)\/(ex=.ret/\XU (m.drop i) (n.drop i)=false/\Xf T' 4=some (.one (.p (.bool false)))))
 |_,_,0,_,h=>by omega
 |0,i,k+1,hi,_=>by
  obtain rfl:i=8:=by omega
  refine⟨.exit 0,?_⟩
  apply ex1
  ·rw[Xa]
   simp only[EVS,EVN,reduceIte,Nat.reduceEqDiff,x139_1,ZA]
   rfl
  ·exact .inl ⟨rfl,by rw[List.drop_of_length_le (by omega)];rfl⟩
 |d+1,i,k+1,hi,hk=>by
  obtain⟨a,ha⟩:∃a,m[i]? =some a:=⟨_,Zf (by omega)⟩
  obtain⟨b,hb⟩:∃b,n[i]? =some b:=⟨_,Zf (by omega)⟩
  have hi8:i<8:=by omega
  have f1:Xd .i64 (.ofNat (i+1))=.ofNat (i+1):=wrap_i64 (by omega)
  have f2:i<=8:=by omega
  have g1:=Wl ha
  have g2:=Wl hb
  rw[SH ha,SH hb]
  by_cases h:a<=b
  ·obtain⟨ex,T',g,g'⟩:=pdivides_loop (E:=E) (K:=K) hm hn t d (i+1) k (by omega) (by omega)
   have h':¬b<a:=by omega
   have e:XU (a::m.drop (i+1)) (b::n.drop (i+1))=XU (m.drop (i+1)) (n.drop (i+1)):=by simp only[XU,decide_eq_true h,Bool.true_and]
   rw[e]
   refine⟨ex,T',?_,g'⟩
   rw[Xa]
   simp only[EVS,EVN,reduceIte,Nat.reduceEqDiff,Yd,x139_1,hi8,f1,f2,g1,g2,Xb,hm,hn,h']
   exact g
  ·have h':b<a:=by omega
   have e:XU (a::m.drop (i+1)) (b::n.drop (i+1))=false:=by simp only[XU,decide_eq_false h,Bool.false_and]
   rw[e]
   refine⟨.ret,?_⟩
   apply ex1
   ·rw[Xa]
    simp only[EVS,EVN,reduceIte,Nat.reduceEqDiff,Yd,x139_1,hi8,f2,g1,g2,Xb,hm,hn,h']
    rfl
   ·exact .inr ⟨rfl,rfl,by simp only[EVS,reduceIte]⟩
theorem S2 {B:Base}(hB:Std B){m n:List Nat}(hm:m.length=8)(hn:n.length=8):Ret B 139 [.agg (mo m),.agg (mo n)] (.one (.bool (XU m n))):=by
 refine Ret.of (hB.tab _ _ rfl) ((Evt.ge 9).mono fun E K hK=> ?_)
 obtain⟨ex,T',g1,g2⟩:=pdivides_loop (E:=E) (K:=K) hm hn 51 8 0 K (by omega) (by omega)
 rw[Yh,Yh]at g2
 rcases g2 with⟨rfl,e⟩|⟨rfl,e,g3⟩
 ·rw[e]
  simp only[EVS,EVN,reduceIte,Nat.reduceEqDiff,Nat.reduceLeDiff,Nat.reduceAdd,x139,XT,Xb,hm,hn,g1]
 ·rw[e]
  simp only[EVS,EVN,reduceIte,Nat.reduceEqDiff,Nat.reduceLeDiff,Nat.reduceAdd,x139,XT,Xb,hm,hn,g1,g3]
theorem plcm_ret {B:Base}(hB:Std B){m n:List Nat}(hm:XF m)(hn:XF n):Ret B 100 [.agg (mo m),.agg (mo n)] (.agg (mo (X2 m n))):=by
 obtain⟨m8,hm2⟩:=hm
 obtain⟨n8,hn2⟩:=hn
 obtain⟨a,b,c,d,e,f,g,i,rfl⟩:=Sx m8
 obtain⟨a',b',c',d',e',f',g',i',rfl⟩:=Sx n8
 simp only[Zk,Yk,or_false,forall_eq_or_imp,forall_eq]at hm2 hn2
 obtain⟨ha,hb,hc,hd,he,hf,hg,hi⟩:=hm2
 obtain⟨ka,kb,kc,kd,ke,kf,kg,ki⟩:=hn2
 refine Ret.of (hB.tab _ _ rfl) (((Evt.ge 9)).mono fun E K hK=> ?_)
 obtain⟨K',rfl⟩:∃K',K=K'+9:=⟨K-9,by omega⟩
 simp only[X2,ZG,List.zipWith_nil_right,mo,Zx,ZZ]
 obtain⟨cE,lK,oD,oS,oR,dS,dD,e1,e2,e3,e4,e5,e6,e7,hL,R⟩:=EVR
 simp(decide:=true)only[EVQ,R,hL,EVN,reduceIte,Nat.reduceAdd,Nat.reduceMul,x100,x100_1,w1,max_nn]
theorem pgcdM_ret {B:Base}(hB:Std B){m n:List Nat}(hm:XF m)(hn:XF n):Ret B 65 [.agg (mo m),.agg (mo n)] (.agg (mo (gcdM m n))):=by
 obtain⟨m8,hm2⟩:=hm
 obtain⟨n8,hn2⟩:=hn
 obtain⟨a,b,c,d,e,f,g,i,rfl⟩:=Sx m8
 obtain⟨a',b',c',d',e',f',g',i',rfl⟩:=Sx n8
 simp only[Zk,Yk,or_false,forall_eq_or_imp,forall_eq]at hm2 hn2
 obtain⟨ha,hb,hc,hd,he,hf,hg,hi⟩:=hm2
 obtain⟨ka,kb,kc,kd,ke,kf,kg,ki⟩:=hn2
 refine Ret.of (hB.tab _ _ rfl) (((Evt.ge 9)).mono fun E K hK=> ?_)
 obtain⟨K',rfl⟩:∃K',K=K'+9:=⟨K-9,by omega⟩
 simp only[gcdM,ZG,List.zipWith_nil_right,mo,Zx,ZZ]
 obtain⟨cE,lK,oD,oS,oR,dS,dD,e1,e2,e3,e4,e5,e6,e7,hL,R⟩:=EVR
 simp(decide:=true)only[EVQ,R,hL,EVN,reduceIte,Nat.reduceAdd,Nat.reduceMul,x65,x65_1,w1,min_nn]
theorem pquo_ret {B:Base}(hB:Std B){m n:List Nat}(hm:XF m)(hn:XF n)(hd:XU n m=true):Ret B 103 [.agg (mo m),.agg (mo n)] (.tup [.agg (mo (Wv m n)),.one (.bool true)]):=by
 have hv:=S2 hB hn.1 hm.1
 rw[hd]at hv
 have hdd:=hd
 clear hd
 obtain⟨m8,hm2⟩:=hm
 obtain⟨n8,hn2⟩:=hn
 obtain⟨a,b,c,d,e,f,g,i,rfl⟩:=Sx m8
 obtain⟨a',b',c',d',e',f',g',i',rfl⟩:=Sx n8
 simp only[Zk,Yk,or_false,forall_eq_or_imp,forall_eq]at hm2 hn2
 obtain⟨ha,hb,hc,hd,he,hf,hg,hi⟩:=hm2
 obtain⟨ka,kb,kc,kd,ke,kf,kg,ki⟩:=hn2
 simp only[XU,Zo,decide_eq_true_eq,and_true]at hdd
 obtain⟨d1,d2,d3,d4,d5,d6,d7,d8⟩:=hdd
 refine Ret.of (hB.tab _ _ rfl) (((Evt.ge 9).and (hv.evt.and hB.evt)).mono fun E K ⟨hK,e0,hmd⟩=> ?_)
 obtain⟨K',rfl⟩:∃K',K=K'+9:=⟨K-9,by omega⟩
 simp only[Wv,ZG,List.zipWith_nil_right,mo,Zx,ZZ]at e0⊢
 have q:∀{x y:Nat},y<=x->x<=65535->Xd .i64 (.ofNat x-.ofNat y)=.ofNat (x-y):=fun h k=>XI h (by omega)
 obtain⟨cE,lK,oD,oS,oR,dS,dD,e1,e2,e3,e4,e5,e6,e7,hL,R⟩:=EVR
 simp(decide:=true)only[EVQ,R,hL,EVN,reduceIte,Nat.reduceAdd,Nat.reduceMul,x103,x103_1,w1,hmd,MDS,e0,q d1 ha,q d2 hb,q d3 hc,q d4 hd,q d5 he,q d6 hf,q d7 hg,q d8 hi]
theorem pquo_ret0 {B:Base}(hB:Std B){m n:List Nat}(hm:XF m)(hn:XF n)(hd:XU n m=false):Ret B 103 [.agg (mo m),.agg (mo n)] (.tup [.agg (mo [0,0,0,0,0,0,0,0]),.one (.bool false)]):=by
 have hv:=S2 hB hn.1 hm.1
 rw[hd]at hv
 refine Ret.of (hB.tab _ _ rfl) ((hv.evt.and hB.evt).mono fun E K ⟨e0,hmd⟩=> ?_)
 have m8:=hm.1
 have n8:=hn.1
 have t1:(moD m).take 8=moD m:=Ze (by rw[Xb];omega)
 have t2:(moD n).take 8=moD n:=Ze (by rw[Xb];omega)
 simp only[mo,Zx,ZZ]
 have e0':=e0
 simp only[EVS,EVN,reduceIte,Nat.reduceEqDiff,Nat.reduceLeDiff,Nat.reduceAdd,x103,show(List.map (fun e=>PL.int IntKind.i64 (Int.ofNat e)) m).map DL.p=moD m from XT m,show(List.map (fun e=>PL.int IntKind.i64 (Int.ofNat e)) n).map DL.p=moD n from XT n,Xb,m8,n8,t1,t2,frz_moD',ids_moD',hmd,MDS,e0']
end Go.Proofs.YtefpgecinlekpaaGreat
