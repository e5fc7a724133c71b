/- Regions that draw their order, first part: an operation looks only at what it says; the run in the order of the text. -/
import Derived.Test.YtidginchkjhobaaGreatEvFun
namespace Go.Ev
open Go.RowKit
theorem O3 {h q:HF}:∀(k:Nat) (l:DL) (z:PL),XA k h l=some z->(∀id∈W1 k h l,q id=h id)->XA k q l=some z/\W1 k q l=W1 k h l:=by
 have o:∀(k:Nat),(∀(l:DL) (z:PL),XA k h l=some z->(∀id∈W1 k h l,q id=h id)->XA k q l=some z/\W1 k q l=W1 k h l)->
   ∀(x:List DL) (v:List PL),Xt (XA k h) x=some v->(∀id∈x.flatMap (W1 k h),q id=h id)->Xt (XA k q) x=some v/\x.flatMap (W1 k q)=x.flatMap (W1 k h):=by
  intro k C x;induction x with
  |nil=>intro v m _;exact⟨by rw[dF m];rfl,rfl⟩
  |cons l x L=>
   intro v m a;obtain⟨p,Q,P,J,rfl⟩:=map_cons m;simp only[Yw,Yc]at a;obtain⟨t,u⟩:=C l p P fun id d=>a id (.inl d)
   obtain⟨F,G⟩:=L Q J fun id d=>a id (.inr d)
   exact⟨by simp[Xt,t,F],by simp[Yw,u,G]⟩
 intro k;induction k with
 |zero=>
  intro l z g _;cases l with
  |p l=>simp only[XA]at g⊢;exact⟨g,by simp[W1]⟩
  |own=>simp[XA]at g
  |ptr=>simp[XA]at g
  |fn=>simp[XA]at g
  |mp=>simp[XA]at g
 |succ k C=>
  intro l z g a;cases l with
  |p l=>simp only[XA]at g⊢;exact⟨g,by simp[W1]⟩
  |mp _=>simp[XA]at g
  |fn f w=>
   simp only[XA]at g;cases m:Xt (XA k h) w with
   |none=>simp[m]at g
   |some N=>
   simp only[m,Za]at g;subst g;simp only[W1]at a;obtain⟨t,u⟩:=o k C w N m a;exact⟨by simp[XA,t],by simp only[W1];exact u⟩
  |own id XX y M=>
   simp only[XA]at g;cases r:h id with
   |none=>simp[r]at g
   |some b=>
   simp only[r]at g;simp only[W1,r,Zj]at a;have s:q id=some b:=by rw[a id (.inl rfl)];exact r
   obtain⟨n,j⟩:=X3 g;cases m:Xt (Xt (XA k h)) ((b.ch.drop y).take M)with
   |none=>simp[m]at j
   |some A=>
   simp only[m,Za]at j;subst j;have E:∀(ch:List (List DL)) (A:List (List PL)),Xt (Xt (XA k h)) ch=some A->(∀id∈ch.flatMap (fun c=>c.flatMap (W1 k h)),q id=h id)->
     Xt (Xt (XA k q)) ch=some A/\(ch.flatMap fun c=>c.flatMap (W1 k q))=ch.flatMap fun c=>c.flatMap (W1 k h):=by
    intro ch;induction ch with
    |nil=>intro A m _;exact⟨by rw[dF m];rfl,rfl⟩
    |cons c ch K=>
     intro A m I;obtain⟨e,D,O,H,rfl⟩:=map_cons m;simp only[Yw,Yc]at I;obtain⟨t,u⟩:=o k C c e O fun id d=>I id (.inl d)
     obtain⟨F,G⟩:=K D H fun id d=>I id (.inr d)
     exact⟨by simp[Xt,t,F],by simp[Yw,u,G]⟩
   obtain⟨t,u⟩:=E _ _ m fun id d=>a id (.inr d)
   refine⟨by simp only[XA,s,n,cond_true,t],?_⟩;simp only[W1,s,r,u]
  |ptr id XX i y=>
   simp only[XA]at g;cases r:h id with
   |none=>simp[r]at g
   |some b=>
   simp only[r]at g;obtain⟨n,j⟩:=X3 g;cases B:b.ch[i]? with
   |none=>simp[B]at j
   |some c=>
   simp only[B]at j;simp only[W1,r,B,Zj]at a;have s:q id=some b:=by rw[a id (.inl rfl)];exact r
   cases m:Xt (XA k h) (c.drop y)with
   |none=>simp[m]at j
   |some N=>
   simp only[m,Za]at j;subst j;obtain⟨t,u⟩:=o k C _ _ m fun id d=>a id (.inr d)
   refine⟨by simp only[XA,s,n,cond_true,B,t],?_⟩;simp only[W1,s,r,B,u]
theorem gj {h i:HF}(d:DV)(p:PV)(c:XY h d=some p)(a:∀id∈S7 h d,i id=h id):XY i d=some p/\S7 i d=S7 h d:=by
 cases d with
 |XZ _=>simp[XY]at c
 |one l=>
  simp only[XY]at c;cases g:XA Ww h l with
  |none=>simp[g]at c
  |some v=>
  simp only[g,Za]at c;subst c;obtain⟨j,k⟩:=O3 _ l v g a;exact⟨by simp[XY,j],k⟩
 |agg r=>
  simp only[XY]at c;cases g:Xt (XA Ww h) r with
  |none=>simp[g]at c
  |some b=>
  simp only[g,Za]at c;subst c;have m:∀(e:List DL) (b:List PL),Xt (XA Ww h) e=some b->(∀id∈e.flatMap (W1 Ww h),i id=h id)->Xt (XA Ww i) e=some b/\e.flatMap (W1 Ww i)=e.flatMap (W1 Ww h):=by
   intro e;induction e with
   |nil=>intro b n _;exact⟨by rw[dF n];rfl,rfl⟩
   |cons l e q=>
    intro b n a;obtain⟨p,w,u,o,rfl⟩:=map_cons n;simp only[Yw,Yc]at a;obtain⟨j,k⟩:=O3 _ l p u fun id f=>a id (.inl f)
    obtain⟨s,t⟩:=q w o fun id f=>a id (.inr f)
    exact⟨by simp[Xt,j,s],by simp[Yw,k,t]⟩
  obtain⟨j,k⟩:=m r b g a;exact⟨by simp[XY,j],k⟩
theorem Oe {h j:HF}(l:DL)(g:List (List DL))(d:List Nat)(a:Wp h l=some (g,d))(f:∀id∈d,j id=h id):Wp j l=some (g,d):=by
 unfold Wp at a⊢;split at a
 ·exact a
 ·exact a
 ·rename_i id XX m k;cases i:h id with
  |none=>simp[i]at a
  |some b=>
  simp only[i]at a;obtain⟨c,e⟩:=Xv a;simp only[Zo]at e;obtain⟨rfl,rfl⟩:=e;rw[f id (by simp),i];simp only[c,cond_true]
 ·simp at a
theorem filterMap_eq {a c:Type}{f g:a->Option c}:∀(l:List a),(∀x∈l,f x=g x)->l.filterMap f=l.filterMap g
 |[],_=>rfl
 |x::xs,h=>by
  rw[List.filterMap_cons,List.filterMap_cons,h x (by simp),filterMap_eq xs fun y b=>h y (by simp[b])]
theorem Pa (E:Xa){h j:HF}(f:Nat)(i:List DV)(r:Vc)(c:Vk E h f i=some r)(a:∀id∈r.rd,j id=h id):Vk E j f i=some r:=by
 unfold Vk at c⊢;split at c
 ·cases k:Xt (XY h) i with
  |none=>simp[k]at c
  |some g=>
  simp only[k]at c;cases s:E.pure f g with
  |none=>simp[s]at c
  |some z=>
  simp only[s]at c;have v:r.rd=i.flatMap (S7 h):=by
   simp only[YG]at c;split at c<;>simp only[Za]at c<;>subst c<;>rfl
  rw[v]at a;have m:∀(e:List DV) (g:List PV),Xt (XY h) e=some g->(∀id∈e.flatMap (S7 h),j id=h id)->Xt (XY j) e=some g/\e.flatMap (S7 j)=e.flatMap (S7 h):=by
   intro e;induction e with
   |nil=>intro x t _;exact⟨by rw[dF t];rfl,rfl⟩
   |cons l e w=>
    intro x t a;obtain⟨p,g,k,u,rfl⟩:=map_cons t;simp only[Yw,Yc]at a;obtain⟨n,o⟩:=gj l p k fun id d=>a id (.inl d)
    obtain⟨q,y⟩:=w g u fun id d=>a id (.inr d)
    exact⟨by simp[Xt,n,q],by simp[Yw,o,y]⟩
  obtain⟨n,o⟩:=m i g k a;have q:(i.flatMap (S7 h)).filterMap (fun id=>(j id).map fun b=>(id,{b with fz:=true}))=(i.flatMap (S7 h)).filterMap (fun id=>(h id).map fun b=>(id,{b with fz:=true})):=by
   refine filterMap_eq _ fun id d=> ?_
   rw[a id d]
  simp only[n,s,o,q];exact c
 ·simp at c
theorem rT (E:Xa)(base:Nat)(O:aT)(N:List DV){h s:HF}(n:Nat)(r:Vc)(a:X8 E base O N h n=some r)(g:∀id∈r.rd,s id=h id):X8 E base O N s n=some r:=by
 cases O with
 |call f=>exact Pa E f N r a g
 |TF=>
  simp only[X8,SA]at a⊢;split at a
  ·exact Pa E _ _ r a g
  ·exact Pa E _ _ r a g
  ·simp at a
 |load H G=>
  simp only[X8,QX]at a⊢;split at a
  ·exact a
  ·rename_i id XX i B;cases v:SF h id XX i with
   |none=>simp[v]at a
   |some c=>
   simp only[v]at a;have m:s id=h id:=by
    obtain⟨_,a⟩:=X3 a;split at a<;>simp only[Za,reduceCtorEq]at a;subst a;exact g id (by simp)
   have w:SF s id XX i=some c:=by unfold SF at v⊢;rw[m];exact v
   simp only[w];exact a
  ·simp at a
 |store G=>
  simp only[X8,RS]at a⊢;split at a
  ·rename_i id XX i B x;cases o:h id with
   |none=>simp[o]at a
   |some b=>
   simp only[o]at a;have m:s id=h id:=by
    split at a
    ·simp only[QO]at a;obtain⟨_,a⟩:=X3 a;split at a
     ·obtain⟨_,rfl⟩:=Xv a;exact g id (by simp)
     ·simp at a
    ·simp at a
   simp only[m,o];exact a
  ·simp at a
 |Q7 G=>
  simp only[X8,Vv]at a⊢;split at a
  ·exact a
  ·rename_i id XX B C k i;cases o:h id with
   |none=>simp[o]at a
   |some b=>
   simp only[o]at a;have m:s id=h id:=by
    obtain⟨_,rfl⟩:=Xv a;exact g id (by simp)
   simp only[m,o];exact a
  ·simp at a
 |slice G lo Q=>
  simp only[X8,RT]at a⊢;cases P:VL lo Q N with
  |none=>simp[P]at a
  |some q=>
  obtain⟨x,l,u⟩:=q;simp only[P]at a⊢;cases p:WI G h x l u with
  |none=>simp[p]at a
  |some T=>
  obtain⟨d,U⟩:=T;simp only[p,Za]at a;subst a;have :WI G s x l u=some (d,U):=by
   unfold WI at p⊢;split at p
   ·exact p
   ·exact p
   ·rename_i id XX B C;cases o:h id with
    |none=>simp[o]at p
    |some b=>
    simp only[o]at p;obtain⟨D,J⟩:=Xv p;simp only[Zo]at J;obtain⟨rfl,rfl⟩:=J;rw[g id (by simp),o];simp only[D,cond_true]
   ·simp at p
  simp only[this]
 |append e G bytes=>
  simp only[X8,W6]at a⊢;split at a
  ·rename_i x y;cases v:Wp h y with
   |none=>simp[v]at a
   |some q=>
   obtain⟨F,A⟩:=q;simp only[v]at a;obtain⟨I,j⟩:=X3 a;have L:∀id∈A,id∈r.rd:=by
    split at j
    ·simp only[WQ]at j;obtain⟨_,j⟩:=X3 j;split at j<;>simp only[Za]at j<;>subst j<;>exact fun id h=>h
    ·split at j
     ·rw[YG]at j;split at j
      ·simp only[U4]at j;obtain⟨_,rfl⟩:=Xv j;intro id h;simp[h]
      ·simp only[S2]at j;obtain⟨_,rfl⟩:=Xv j;intro id h;simp[h]
     ·simp at j
    ·simp at j
   have w:=Oe y F A v fun id m=>g id (L id m)
   simp only[w,I,cond_true];split at j
   ·exact j
   ·rename_i id XX C;cases o:h id with
    |none=>simp[o]at j
    |some b=>
    simp only[o]at j;have m:s id=h id:=by
     have t:=j;rw[YG]at t;split at t
     ·simp only[U4]at t;obtain⟨_,rfl⟩:=Xv t;exact g id (by simp)
     ·simp only[S2]at t;obtain⟨_,rfl⟩:=Xv t;exact g id (by simp)
    simp only[m,o];exact j
   ·simp at j
  ·simp at a
 |clear z=>
  simp only[X8,RU]at a⊢;split at a
  ·rename_i id XX B C;cases o:h id with
   |none=>simp[o]at a
   |some b=>
   simp only[o]at a;have m:s id=h id:=by
    obtain⟨_,rfl⟩:=Xv a;exact g id (by simp)
   simp only[m,o];exact a
  ·simp at a
 |copy G=>
  simp only[X8,QZ]at a⊢;split at a
  ·rename_i id XX B C y;cases o:h id with
   |none=>simp[o]at a
   |some b=>
   simp only[o]at a;cases v:Wp h y with
   |none=>simp[v]at a
   |some q=>
   obtain⟨F,A⟩:=q;simp only[v]at a;have K:r.rd=id::A:=by
    simp only[Ob]at a;obtain⟨_,rfl⟩:=Xv a;rfl
   have m:s id=h id:=g id (by rw[K];simp);have w:=Oe y F A v fun q R=>g q (by rw[K];simp[R])
   simp only[m,o,w];exact a
  ·simp at a
 |lookup M k H z W=>
  simp only[X8,UO]at a⊢;split at a
  ·rename_i id S;cases o:h id with
   |none=>simp[o]at a
   |some b=>
   simp only[o]at a;have m:s id=h id:=by
    refine g id ?_;simp only[Nn,YG]at a
    (repeat' split at a)<;>simp only[Za,reduceCtorEq]at a<;>subst a<;>simp
   simp only[m,o];exact a
  ·simp at a
 |mapUpdate M k H V=>
  simp only[X8,Vf]at a⊢;split at a
  ·rename_i id S x;cases o:h id with
   |none=>simp[o]at a
   |some b=>
   simp only[o]at a;have m:s id=h id:=by
    refine g id ?_;split at a
    ·obtain⟨_,a⟩:=X3 a;unfold eB at a;split at a<;>simp only[Za,reduceCtorEq]at a<;>subst a<;>simp
    ·simp at a
   simp only[m,o];exact a
  ·simp at a
 |PY=>
  simp only[X8,Tb]at a⊢;split at a
  ·rename_i id;cases o:h id with
   |none=>simp[o]at a
   |some b=>
   simp only[o]at a;have m:s id=h id:=by
    obtain⟨_,rfl⟩:=Xv a;exact g id (by simp)
   simp only[m,o];exact a
  ·simp at a
 |_=>exact a
structure qk (E:Xa)(base:Nat)(xs:List Xw)(S:Nat->St)(F:Nat->RO):Prop where
 step:∀i xo,xs[i]? =some xo->W3 E base (Xk E xo.op) xo (S i)=some (S (i+1),(F i).rd,(F i).wr)
 oU:∀i xo,xs[i]? =some xo->(F i).i=i/\(F i).after=xo.after/\(F i).lo=(S i).H.length/\(F i).hi=(S (i+1)).H.length
 heap:∀i xo,xs[i]? =some xo->Xk E xo.op=true->i+1=xs.length/\∀k,k<i->k∈xo.after
theorem Pk (l:List Nat):∀(i:Nat),TZ l i=true->∀k,k<i->k∈l
 |0,_,k,hk=>by omega
 |i+1,h,k,hk=>by
  simp only[TZ,Zs]at h;by_cases e:k=i
  ·subst e;simpa using h.1
  ·exact Pk l i h.2 k (by omega)
theorem xS (E:Xa)(base:Nat):∀(xs:List Xw) (i:Nat) (s f:St) (e:List RO),Uz E base i xs s=some (f,e)->
  ∃(S:Nat->St) (F:Nat->RO),S 0=s/\S xs.length=f/\e=(List.range xs.length).map F/\
   (∀k a,xs[k]? =some a->W3 E base (Xk E a.op) a (S k)=some (S (k+1),(F k).rd,(F k).wr))/\
   (∀k a,xs[k]? =some a->(F k).i=i+k/\(F k).after=a.after/\(F k).lo=(S k).H.length/\(F k).hi=(S (k+1)).H.length)/\
   (∀k a,xs[k]? =some a->Xk E a.op=true->k+1=xs.length/\∀q,q<i+k->q∈a.after)
 |[],i,s,f,e,h=>by
  simp only[Uz,Za,Zo]at h;obtain⟨rfl,rfl⟩:=h;exact⟨fun _=>s,fun _=>⟨0,[],[],[],0,0⟩,rfl,rfl,rfl,fun k a b=>by simp at b,fun k a b=>by simp at b,fun k a b=>by simp at b⟩
 |o::os,i,s,f,e,h=>by
  simp only[Uz]at h;cases c:(Xk E o.op&& !(os.isEmpty&&TZ o.after i))with
  |true=>rw[c]at h;simp at h
  |false=>
  rw[c,cond_false]at h;cases m:W3 E base (Xk E o.op) o s with
  |none=>simp[m]at h
  |some q=>
  obtain⟨g,x,y⟩:=q;simp only[m]at h;cases t:Uz E base (i+1) os g with
  |none=>simp[t]at h
  |some D=>
  obtain⟨G,j⟩:=D;simp only[t,Za,Zo]at h;obtain⟨rfl,rfl⟩:=h;obtain⟨S,F,h0,B,n,u,p,r⟩:=xS E base os (i+1) g G j t;refine⟨fun k=>match k with |0=>s|k+1=>S k,fun k=>match k with |0=>⟨i,x,y,o.after,s.H.length,g.H.length⟩|k+1=>F k,rfl,B,?_,?_,?_,?_⟩
  ·rw[Zi,List.range_succ_eq_map,Zr,List.map_map,n];rfl
  ·intro k a b;cases k with
   |zero=>simp at b;subst b;show W3 E base (Xk E o.op) o s=some (S 0,x,y);rw[h0];exact m
   |succ k=>exact u k a (by simpa using b)
  ·intro k a b;cases k with
   |zero=>simp at b;subst b;exact⟨rfl,rfl,rfl,by show g.H.length=(S 0).H.length;rw[h0]⟩
   |succ k=>
    obtain⟨v,l,z,A⟩:=p k a (by simpa using b);exact⟨by rw[v];omega,l,z,A⟩
  ·intro k a b w;cases k with
   |zero=>
    simp at b;subst b;rw[w]at c;simp only[YF,Bool.not_eq_false',Zs]at c;have d:os=[]:=by simpa using c.1
    exact⟨by simp[d],fun q C=>Pk _ _ c.2 q (by omega)⟩
   |succ k=>
    obtain⟨v,l⟩:=r k a (by simpa using b) w;exact⟨by simp;omega,fun q C=>l q (by omega)⟩
theorem A1 (E:Xa)(base:Nat)(xs:List Xw)(s t:St)(h:UA E base xs s=some t):
  ∃S F,qk E base xs S F/\S 0=s/\S xs.length=t/\∀i j,i<xs.length->j<xs.length->i≠j->P3 (F i) (F j)=true\/((F i).wr=[]/\(F i).lo=(F i).hi):=by
 unfold UA at h;cases d:Uz E base 0 xs s with
 |none=>simp[d]at h
 |some q=>
 obtain⟨x,o⟩:=q;simp only[d]at h;obtain⟨e,rfl⟩:=Xv h;obtain⟨S,F,h0,w,f,m,g,l⟩:=xS E base xs 0 s x o d;refine⟨S,F,⟨m,fun i n b=>by obtain⟨p,c⟩:=g i n b;exact⟨by omega,c⟩,fun i n b u=>by obtain⟨p,c⟩:=l i n b u;exact⟨p,fun k r=>c k (by omega)⟩⟩,h0,w,fun i j b v _=> ?_⟩;unfold Rh at e;rw[ZW]at e;have a:∀k,k<xs.length->F k∈o:=fun k r=>by rw[f];exact ZQ.2 ⟨k,List.mem_range.2 r,rfl⟩
 have:=e (F i) (a i b);rw[Bool.or_eq_true]at this;rcases this with h1|h1
 ·rw[Zs]at h1;exact .inr ⟨by simpa using h1.1,Zl h1.2⟩
 ·exact .inl (ZW.1 h1 (F j) (a j v))
theorem Np {E:Xa}{a:Option Nat}{f:Nat}{d:List DV}{s b:St}{c e:List Nat}(h:W7 E a f d s=some (b,c,e)):∃v,b.T=OS s.T a v:=by
 unfold W7 at h;split at h
 ·split at h
  ·simp only[TR,Za,Zo]at h;obtain⟨rfl,_,_⟩:=h;exact⟨_,rfl⟩
  ·simp at h
 ·simp at h
theorem CW {E:Xa}{base:Nat}{a:Xw}{s b:St}{c d:List Nat}(h:W3 E base (Xk E a.op) a s=some (b,c,d)):∃v,b.T=OS s.T a.dst v:=by
 unfold W3 at h;split at h
 ·simp at h
 ·simp only[TR,Za,Zo]at h;obtain⟨rfl,_,_⟩:=h;exact⟨_,rfl⟩
 ·split at h
  ·simp at h
  ·simp only[YG]at h;split at h
   ·unfold Qt at h;split at h
    ·exact Np h
    ·split at h
     ·exact Np h
     ·exact Np h
     ·simp at h
    ·simp at h
   ·split at h
    ·simp only[Qv,NM,TR,aW,gN,Za,Zo]at h;obtain⟨rfl,_,_⟩:=h;exact⟨_,rfl⟩
    ·simp at h
theorem kA {E:Xa}{base:Nat}{a:Xw}{s f:St}{e g:List Nat}(h:W3 E base (Xk E a.op) a s=some (f,e,g))(i:Xk E a.op=false):
  (UC s.T a.guard=some false/\f=⟨OS s.T a.dst (.XZ []),s.H⟩/\e=[]/\g=[])\/
  (UC s.T a.guard=some true/\∃b r,Xt (W8.eval s.T) a.args=some b/\X8 E base a.op b (Xn s.H) s.H.length=some r/\f=⟨OS s.T a.dst r.val,Om (VC s.H r.wr) r.al⟩/\e=r.rd/\g=r.wr.map (·.1)):=by
 unfold W3 at h;split at h
 ·simp at h
 ·rename_i c;simp only[TR,Za,Zo]at h;obtain⟨rfl,rfl,rfl⟩:=h;exact .inl ⟨c,rfl,rfl,rfl⟩
 ·rename_i c;right;refine⟨c,?_⟩;split at h
  ·simp at h
  ·rename_i b d;rw[i]at h;simp only[Bool.false_and,cond_false]at h;split at h
   ·rename_i r j;simp only[Qv,NM,TR,aW,gN,Za,Zo]at h;obtain⟨rfl,rfl,rfl⟩:=h;exact⟨b,r,d,j,rfl,rfl,rfl⟩
   ·simp at h
theorem wi (T:List (Nat×DV))(a:Option Nat)(v:DV)(t:Nat)(h:a≠some t):Xh (OS T a v) t=Xh T t:=by
 cases a with
 |none=>rfl
 |some d=>
  simp only[OS,Ux];rw[if_neg (fun e=>h (by rw[e]))]
section
variable {E:Xa}{base:Nat}{xs:List Xw}{S:Nat->St}{F:Nat->RO}
theorem qk.Qf (R:qk E base xs S F)(t a:Nat):∀(b:Nat),a<=b->b<=xs.length->(∀k c,a<=k->k<b->xs[k]? =some c->c.dst≠some t)->Xh (S b).T t=Xh (S a).T t:=by
 intro b;induction b with
 |zero=>intro h _ _;rw[show a=0 by omega]
 |succ b m=>
  intro n o d;by_cases e:a=b+1
  ·rw[e]
  ·have f:xs[b]? =some xs[b]:=Zf (by omega);obtain⟨v,j⟩:=CW (R.step b _ f);rw[j,wi _ _ _ _ (d b _ (by omega) (by omega) f)];exact m (by omega) (by omega) fun k c g i l=>d k c g (by omega) l
theorem iI (H a:List Xz)(id:Nat)(h:id<H.length):Xn (Om H a) id=Xn H id:=by
 rw[QJ];simp[Xn,ZB h]
theorem UX:∀(a:List (Nat×Xz)) (H:List Xz),(VC H a).length=H.length
 |[],_=>rfl
 |(id,b)::a,H=>by simp only[VC];rw[UX a];simp
theorem dz:∀(a:List (Nat×Xz)) (H:List Xz) (id:Nat),id∉a.map (·.1)->Xn (VC H a) id=Xn H id
 |[],_,_,_=>rfl
 |(i,b)::a,H,id,h=>by
  simp only[Zr,Zj,not_or]at h;simp only[VC];rw[dz a _ id h.2];simp only[Xn];rw[ZM (fun e=>h.1 e.symm)]
theorem qu {c:Xw}{s b:St}{g d:List Nat}(h:W3 E base (Xk E c.op) c s=some (b,g,d))(e:Xk E c.op=false):s.H.length<=b.H.length/\∀id,id<s.H.length->id∉d->Xn b.H id=Xn s.H id:=by
 rcases kA h e with⟨_,rfl,_,_⟩|⟨_,i,r,_,_,rfl,_,rfl⟩
 ·exact⟨Zh _,fun _ _ _=>rfl⟩
 ·refine⟨by simp only[];rw[QJ,Zk,UX];omega,fun id a f=> ?_⟩;simp only[];rw[iI _ _ _ (by rw[UX];exact a),dz _ _ _ f]
theorem qk.Oh (R:qk E base xs S F)(id a:Nat)(c:id<(S a).H.length):∀(b:Nat),a<=b->b<=xs.length->(∀k d,a<=k->k<b->xs[k]? =some d->Xk E d.op=false/\id∉(F k).wr)->Xn (S b).H id=Xn (S a).H id/\id<(S b).H.length:=by
 intro b;induction b with
 |zero=>intro h _ _;rw[show a=0 by omega]at c⊢;exact⟨rfl,c⟩
 |succ b r=>
  intro s t f;by_cases e:a=b+1
  ·rw[e]at c⊢;exact⟨rfl,c⟩
  ·have g:xs[b]? =some xs[b]:=Zf (by omega);obtain⟨i,j⟩:=f b _ (by omega) (by omega) g;obtain⟨u,n⟩:=qu (R.step b _ g) i;obtain⟨p,q⟩:=r (by omega) (by omega) fun k d l m o=>f k d l (by omega) o
   exact⟨by rw[n id q j,p],by omega⟩
theorem qk.Rz (R:qk E base xs S F)(a:Nat):∀(b:Nat),a<=b->b<=xs.length->(∀k c,a<=k->k<b->xs[k]? =some c->Xk E c.op=false)->(S a).H.length<=(S b).H.length:=by
 intro b;induction b with
 |zero=>intro h _ _;rw[show a=0 by omega];exact Zh _
 |succ b m=>
  intro n o d;by_cases e:a=b+1
  ·rw[e];exact Zh _
  ·have f:xs[b]? =some xs[b]:=Zf (by omega);obtain⟨j,_⟩:=qu (R.step b _ f) (d b _ (by omega) (by omega) f);exact Zy (m (by omega) (by omega) fun k c g i l=>d k c g (by omega) l) j
theorem Cy (S:Nat->St)(id:Nat)(h0:(S 0).H.length<=id):∀(b:Nat),id<(S b).H.length->∃k,k<b/\(S k).H.length<=id/\id<(S (k+1)).H.length:=by
 intro b;induction b with
 |zero=>intro h;omega
 |succ b c=>
  intro a;by_cases e:id<(S b).H.length
  ·obtain⟨k,d,r⟩:=c e;exact⟨k,by omega,r⟩
  ·exact⟨b,by omega,by omega,a⟩
end
theorem jU:∀(c done:List Xw),∃b,WG done c=done++b/\b.length=c.length/\∀(i:Nat) (y:Xw),b[i]? =some y->∃o,c[i]? =some o/\y.dst=o.dst/\y.op=o.op/\y.args=o.args/\y.guard=o.guard/\(∀k∈o.after,k∈y.after)/\
  ∀k∈y.after,k∈o.after\/∃j∈o.after,∃p,(done++b)[j]? =some p/\k∈p.after
 |[],done=>⟨[],by simp[WG],rfl,fun i y h=>by simp at h⟩
 |o::c,done=>by
  obtain⟨b,t,u,v⟩:=jU c (done++[{o with after:=dd (o.after++o.after.flatMap (eo done))}]);refine⟨{o with after:=dd (o.after++o.after.flatMap (eo done))}::b,?_,by simp[u],fun i y e=> ?_⟩
  ·simp only[WG];rw[t];simp
  ·cases i with
   |zero=>
    simp at e;subst e;refine⟨o,rfl,rfl,rfl,rfl,rfl,fun k a=>(rl _ _).2 (Yc.2 (.inl a)),fun k a=> ?_⟩;simp only[rl,Yc,Yo]at a;rcases a with a|⟨j,hj,a⟩
    ·exact .inl a
    ·right;refine⟨j,hj,?_⟩;unfold eo at a;cases d:done[j]? with
     |none=>simp[d]at a
     |some p=>
      simp only[d]at a;refine⟨p,?_,a⟩;rw[ZB (Zb.1 d).1];exact d
   |succ i=>
    obtain⟨q,f,g,l,m,n,s,r⟩:=v i y (by simpa using e);refine⟨q,by simpa using f,g,l,m,n,s,fun k a=> ?_⟩;rcases r k a with h|⟨j,hj,p,hp,hkp⟩
    ·exact .inl h
    ·exact .inr ⟨j,hj,p,by simpa using hp,hkp⟩
theorem sa (a:List Xw):(WG [] a).length=a.length/\∀(i:Nat) (y:Xw),(WG [] a)[i]? =some y->∃o,a[i]? =some o/\y.dst=o.dst/\y.op=o.op/\y.args=o.args/\y.guard=o.guard/\(∀k∈o.after,k∈y.after)/\
  ∀k∈y.after,k∈o.after\/∃j∈o.after,∃p,(WG [] a)[j]? =some p/\k∈p.after:=by
 obtain⟨e,b,d,c⟩:=jU a [];simp only[ZF]at b c;rw[b];exact⟨d,c⟩
end Go.Ev
namespace Go.Ev
open Go.RowKit
theorem UT (T:List (Nat×DV)):∀(a:List Nat) (t:Nat),t∈a->Xh (VH T a) t=Xh T t
 |[],t,h=>by simp at h
 |k::a,t,h=>by
  simp only[VH];cases b:Xh T k with
  |none=>
   rcases Zj.1 h with rfl|h1
   ·by_cases f:t∈a
    ·exact UT T a t f
    ·simp only[];cases g:Xh (VH T a) t with
     |none=>rw[b]
     |some d=>exact absurd (RD T a t d g) (by rw[b];simp)
   ·exact UT T a t h1
  |some v=>
   simp only[Ux];by_cases e:k=t
   ·subst e;rw[if_pos rfl,b]
   ·rw[if_neg e];exact UT T a t ((Zj.1 h).resolve_left fun c=>e c.symm)
theorem wu (T:List (Nat×DV))(a:List Nat)(x:W8)(h:∀t∈x.tmp,t∈a):x.eval (VH T a)=x.eval T:=by
 cases x with
 |t n=>simp only[W8.eval];exact UT T a n (h n (by simp[W8.tmp]))
 |c v=>rfl
theorem fL {a c:Type}{f g:a->Option c}:∀(l:List a),(∀x∈l,f x=g x)->Xt f l=Xt g l
 |[],_=>rfl
 |x::xs,h=>by simp only[Xt];rw[h x (by simp),fL xs fun y b=>h y (by simp[b])]
theorem gb (T:List (Nat×DV))(a:List Nat)(g:Option (Nat×Bool))(h:∀t b,g=some (t,b)->t∈a):UC (VH T a) g=UC T g:=by
 cases g with
 |none=>rfl
 |some q=>obtain⟨t,b⟩:=q;simp only[UC];rw[UT T a t (h t b rfl)]
structure sk (xs:List Xw):Prop where
 back:∀(i:Nat) (xo:Xw),xs[i]? =some xo->∀j∈xo.after,j<i
 uniq:∀(i j:Nat) (xi xj:Xw) (d:Nat),xs[i]? =some xi->xs[j]? =some xj->i≠j->xj.dst=some d->xi.dst≠some d
 order:∀(i j:Nat) (xi xj:Xw) (d:Nat),xs[i]? =some xi->xs[j]? =some xj->i≠j->xj.dst=some d->d∈xi.tmps->j∈xi.after\/i∈xj.after
theorem BR (xs:List Xw)(h:gk xs=true):sk xs:=by
 unfold gk at h;rw[ZW]at h;have q:∀(i:Nat) (b:Xw),xs[i]? =some b->(b,i)∈xs.zipIdx:=fun i b m=>by
  rw[List.mem_zipIdx_iff_getElem?];exact m
 have m:∀(i:Nat) (b:Xw),xs[i]? =some b->(b.after.all (fun j=>Nat.blt j i)=true)/\∀(j:Nat) (g:Xw),xs[j]? =some g->i≠j->∀d,g.dst=some d->(b.dst≠some d)/\(d∈b.tmps->j∈b.after\/i∈g.after):=by
  intro i b a;have n:=h (b,i) (q i b a);simp only[Zs]at n;refine⟨n.1,fun j g f c d l=> ?_⟩;have k:=ZW.1 n.2 (g,j) (q j g f);simp only[Bool.or_eq_true,l,Zs]at k;rcases k with k|⟨k,h3⟩
  ·exact absurd (by simpa using k) c
  ·refine⟨fun e=> ?_,fun o=> ?_⟩
   ·rw[e]at k;simp at k
   ·rcases h3 with(h3|h3)|h3
    ·rw[Yx]at h3;have:=List.contains_iff_mem.2 o;rw[h3]at this;cases this
    ·exact .inl (by simpa using h3)
    ·exact .inr (by simpa using h3)
 exact⟨fun i b a j r=>RJ (ZW.1 (m i b a).1 j r),fun i j p g d a f c l=>((m i p a).2 j g f c d l).1,fun i j p g d a f c l=>((m i p a).2 j g f c d l).2⟩
structure Touch (xs:List Xw)(F:Nat->RO):Prop where
 wr:∀(i j:Nat) (xi:Xw),xs[i]? =some xi->j<xs.length->i≠j->∀id∈(F i).wr,id∉(F j).wr/\(id∈(F j).rd->j∈xi.after)
 made:∀(i j:Nat) (xj:Xw),i<xs.length->xs[j]? =some xj->i≠j->∀id,(F i).lo<=id->id<(F i).hi->(id∈(F j).rd\/id∈(F j).wr)->i∈xj.after
theorem xt {E:Xa}{base:Nat}{xs:List Xw}{S:Nat->St}{F:Nat->RO}(R:qk E base xs S F)(h:∀i j,i<xs.length->j<xs.length->i≠j->P3 (F i) (F j)=true\/((F i).wr=[]/\(F i).lo=(F i).hi)):Touch xs F:=by
 have n:∀(i:Nat) (s:Xw),xs[i]? =some s->i<xs.length:=fun i s e=>(Zb.1 e).1
 have d:∀i j,i<xs.length->j<xs.length->i≠j->P3 (F i) (F j)=true->
   (∀id∈(F i).wr,id∉(F j).wr/\(id∈(F j).rd->(F j).i∈(F i).after))/\(∀id,(F i).lo<=id->id<(F i).hi->(id∈(F j).rd\/id∈(F j).wr)->(F i).i∈(F j).after):=by
  intro i j e f b a;unfold P3 at a;have e1:=(R.oU i _ (Zf e)).1;have e2:=(R.oU j _ (Zf f)).1;rw[Bool.or_eq_true]at a;rcases a with a|a
  ·exact absurd (by rw[<-e1,<-e2];exact Zl a) b
  ·simp only[Zs,ZW]at a;obtain⟨⟨t,u⟩,v⟩:=a;refine⟨fun id c=> ?_,fun id k g m=> ?_⟩
   ·have:=t id c;simp only[Bool.or_eq_true,Yx]at this;refine⟨fun l=> ?_,fun l=> ?_⟩
    ·have h:=List.contains_iff_mem.2 l;rw[this.1]at h;cases h
    ·rcases this.2 with h|h
     ·have q:=List.contains_iff_mem.2 l;rw[h]at q;cases q
     ·simpa using h
   ·have r:(Nat.ble (F i).lo id&&Nat.blt id (F i).hi)=true:=by
     rw[Zs,Nat.ble_eq,Nat.blt_eq];exact⟨k,g⟩
    rcases m with l|l
    ·have:=u id l;rw[r]at this;simpa using this
    ·have:=v id l;rw[r]at this;simpa using this
 refine⟨fun i j w o f b id c=> ?_,fun i j x e p b id k g m=> ?_⟩
 ·have e:=n i w o;have e1:=(R.oU i _ o).2.1;have e2:=(R.oU j _ (Zf f)).1;rcases h i j e f b with a|⟨a,_⟩
  ·have:=(d i j e f b a).1 id c;rw[e1,e2]at this;exact this
  ·rw[a]at c;simp at c
 ·have f:=n j x p;have e1:=(R.oU j _ p).2.1;have e2:=(R.oU i _ (Zf e)).1;rcases h i j e f b with a|⟨_,a⟩
  ·have:=(d i j e f b a).2 id k g m;rw[e1,e2]at this;exact this
  ·omega
structure Part (lo nt:Nat)(O:BS)(xs:List Xw)(S:Nat->St)(F:Nat->RO)(L:Nat->Prop)(w:World)(μ:Nat->Nat)(h:HF)(a:Act):Prop where
 jR:Marks lo O w μ h a.defers
 sz:a.tmps.size=nt
 done:∀(i:Nat) (xo:Xw),xs[i]? =some xo->L i->∀t,xo.dst=some t->∀d,Xh (S (i+1)).T t=some d->XB w O μ h (a.tmps.getD t undef) d
 rest:∀t,(∀(i:Nat) (xo:Xw),xs[i]? =some xo->L i->xo.dst≠some t)->∀d,Xh (S 0).T t=some d->XB w O μ h (a.tmps.getD t undef) d
 inv:X0 w O μ h
 wr:∀i,i<xs.length->L i->∀id∈(F i).wr,h id=Xn (S (i+1)).H id
 FR:∀id,id<(S 0).H.length->(∀i,i<xs.length->L i->id∉(F i).wr)->h id=Xn (S 0).H id
 new:∀k,k<xs.length->L k->∀id,(S k).H.length<=id->id<(S (k+1)).H.length->(∀i,i<xs.length->L i->id∉(F i).wr)->h id=Xn (S (k+1)).H id
 none:∀id,(S 0).H.length<=id->(∀k,k<xs.length->L k->¬((S k).H.length<=id/\id<(S (k+1)).H.length))->h id=none
section
variable {lo:Nat}{E:Xa}{base nt:Nat}{O:BS}{xs:List Xw}{S:Nat->St}{F:Nat->RO}{L:Nat->Prop}{w:World}{μ:Nat->Nat}{h:HF}{a:Act}
theorem Part.iW (p:Part lo nt O xs S F L w μ h a)(R:qk E base xs S F)(q:sk xs){j:Nat}{r:Xw}(D:xs[j]? =some r)(x:¬L j)(B:∀k∈r.after,L k)(C:∀(i:Nat) (f:Xw),xs[i]? =some f->L i->∀k∈f.after,L k):
  Wu lo nt O w μ h a (VH (S j).T r.tmps):=by
 have Q:j<xs.length:=(Zb.1 D).1;refine⟨p.jR,p.sz,fun t d J=> ?_⟩;have H:t∈r.tmps:=by
  have z:∀(y:List Nat),Xh (VH (S j).T y) t=some d->t∈y:=by
   intro y;induction y with
   |nil=>intro h;simp[VH,Xh]at h
   |cons k y K=>
    intro h;simp only[VH]at h;cases I:Xh (S j).T k with
    |none=>simp only[I]at h;exact Zc _ (K h)
    |some v=>
     simp only[I,Ux]at h;by_cases e:k=t
     ·subst e;exact Ze ..
     ·rw[if_neg e]at h;exact Zc _ (K h)
  exact z _ J
 have c:=RD _ _ _ _ J;by_cases o:∃(i:Nat) (f:Xw),xs[i]? =some f/\i≠j/\f.dst=some t
 ·obtain⟨i,f,m,G,g⟩:=o;have N:i<xs.length:=(Zb.1 m).1;rcases q.order j i r f t D m (fun e=>G e.symm) g H with h1|h1
  ·have M:=q.back j r D i h1;have:=R.Qf t (i+1) j (by omega) (by omega) fun k l U s b=>q.uniq k i l f t b m (by omega) g
   rw[this]at c;exact p.done i f m (B i h1) t g d c
  ·have P:=q.back i f m j h1;have u:¬L i:=fun A=>x (C i f m A j h1)
   have:=R.Qf t 0 j (by omega) (by omega) fun k l _ s b=>q.uniq k i l f t b m (by omega) g
   rw[this]at c;refine p.rest t (fun k l b n=> ?_) d c;by_cases e:k=i
   ·subst e;exact absurd n u
   ·exact q.uniq k i l f t b m e g
 ·have:=R.Qf t 0 j (by omega) (by omega) fun k l _ s b g=>o ⟨k,l,b,by omega,g⟩
  rw[this]at c;refine p.rest t (fun k l b n g=> ?_) d c;exact o ⟨k,l,b,fun e=>x (e▸n),g⟩
theorem Part.heap (p:Part lo nt O xs S F L w μ h a)(R:qk E base xs S F)(K:sk xs)(B:Touch xs F){j:Nat}{C:Xw}(G:xs[j]? =some C)(o:¬L j)(v:∀k∈C.after,L k)(x:∀(i:Nat) (J:Xw),xs[i]? =some J->L i->∀k∈J.after,L k)
  (n:∀(k:Nat) (s:Xw),k<j->xs[k]? =some s->Xk E s.op=false) (id:Nat) (f:id∈(F j).rd) (m:id<(S j).H.length):h id=Xn (S j).H id:=by
 have l:j<xs.length:=(Zb.1 G).1;have c:∀i,i<xs.length->L i->id∉(F i).wr:=by
  intro i M g A;have z:i≠j:=fun e=>o (e▸g)
  have b:xs[i]? =some xs[i]:=Zf M;have:=(B.wr i j _ b l z id A).2 f;exact o (x i _ b g j this)
 have d:∀(k:Nat),k<j->id∉(F k).wr:=by
  intro k r A;have b:xs[k]? =some xs[k]:=Zf (by omega);have:=(B.wr k j _ b l (by omega) id A).2 f;have:=K.back k _ b j this;omega
 by_cases h0:id<(S 0).H.length
 ·rw[p.FR id h0 c];exact((R.Oh id 0 h0 j (by omega) (by omega) fun k s _ r b=>⟨n k s r b,d k r⟩).1).symm
 ·obtain⟨k,r,D,t⟩:=Cy S id (by omega) j m;have y:xs[k]? =some xs[k]:=Zf (by omega);obtain⟨_,_,e1,e2⟩:=R.oU k _ y;have u:L k:=v k (B.made k j C (by omega) G (by omega) id (by rw[e1];exact D) (by rw[e2];exact t) (.inl f));rw[p.new k (by omega) u id D t c];exact((R.Oh id (k+1) t j (by omega) (by omega) fun q N _ I b=>⟨n q N I b,d q I⟩).1).symm
end
end Go.Ev
namespace Go.Ev
open Go.RowKit
theorem RQ:∀(a:List (Nat×Xz)) (h:HF) (id:Nat),id∉a.map (·.1)->TI h a id=h id
 |[],_,_,_=>rfl
 |(i,b)::a,h,id,hn=>by
  simp only[Zr,Zj,not_or]at hn;simp only[TI];rw[RQ a _ id hn.2];simp[hn.1]
theorem mK:∀(a:List (Nat×Xz)) (h d:HF) (id:Nat),id∈a.map (·.1)->TI h a id=TI d a id
 |[],_,_,_,hn=>by simp at hn
 |(i,b)::a,h,d,id,hn=>by
  simp only[TI];by_cases c:id∈a.map (·.1)
  ·exact mK a _ _ id c
  ·have :id=i:=by simpa[c]using hn
   subst this;rw[RQ a _ id c,RQ a _ id c];simp
theorem Rk:∀(a:List Xz) (h:HF) (n id:Nat),(id<n\/n+a.length<=id)->Ra h n a id=h id
 |[],_,_,_,_=>rfl
 |b::bs,h,n,id,hn=>by
  simp only[Ra];rw[Rk bs _ (n+1) id (by simp only[Zi]at hn;omega)];have :id≠n:=by simp only[Zi]at hn;omega
  simp[this]
theorem mL:∀(a:List Xz) (h c:HF) (n id:Nat),n<=id->id<n+a.length->Ra h n a id=Ra c n a id
 |[],_,_,_,_,_,hn=>by simp at hn;omega
 |b::bs,h,c,n,id,h1,hn=>by
  simp only[Ra];by_cases e:id=n
  ·subst e;rw[Rk bs _ _ _ (.inl (by omega)),Rk bs _ _ _ (.inl (by omega))];simp
  ·exact mL bs _ _ _ _ (by omega) (by simp only[Zi]at hn;omega)
section
variable {lo:Nat}{E:Xa}{base nt:Nat}{O:BS}{xs:List Xw}{S:Nat->St}{F:Nat->RO}{L:Nat->Prop}{w w':World}{μ μ':Nat->Nat}{h:HF}{a:Act}
theorem Oz (a:Act)(b:Option Nat)(v:Value)(t:Nat)(c:b≠some t):(a.put b v).tmps.getD t undef=a.tmps.getD t undef:=by
 cases b with
 |none=>rfl
 |some q=>
  have e:q≠t:=fun e=>c (by rw[e])
  simp only[Act.put];rw[ZN,Array.getElem?_setIfInBounds_ne e,ZN]
theorem nD (a:Act)(t:Nat)(v:Value)(b:t<a.tmps.size):(a.put (some t) v).tmps.getD t undef=v:=by
 simp only[Act.put];rw[ZN,YJ b];rfl
theorem put_defers (a:Act)(b:Option Nat)(v:Value):(a.put b v).defers=a.defers/\(a.put b v).tmps.size=a.tmps.size:=by
 cases b<;>simp[Act.put]
theorem qk.inner (R:qk E base xs S F){i:Nat}{a:Xw}(c:xs[i]? =some a)(d:i+1<xs.length):Xk E a.op=false:=by
 cases b:Xk E a.op with
 |false=>rfl
 |true=>have:=(R.heap i a c b).1;omega
theorem Part.add (p:Part lo nt O xs S F L w μ h a)(R:qk E base xs S F)(fl:sk xs)(tc:Touch xs F){j:Nat}{s:Xw}(M:xs[j]? =some s)(x:¬L j)
  (X:∀(i:Nat) (I:Xw),xs[i]? =some I->L i->∀k∈I.after,L k) (z:Pp nt s.dst=true) (d:DV) (v:Value) (r:List (Nat×Xz)) (o:List Xz)
  (W:S (j+1)=⟨OS (S j).T s.dst d,Om (VC (S j).H r) o⟩) (U:(F j).wr=r.map (·.1)) (G:∀q∈r,q.1<(S j).H.length/\∃b,h q.1=some b)
  (hv:XB w' O μ' (Ra (TI h r) (S j).H.length o) v d) (hI:X0 w' O μ' (Ra (TI h r) (S j).H.length o)) (hm:WD O w μ h w' μ' (Ra (TI h r) (S j).H.length o)):
  Part lo nt O xs S F (fun i=>L i\/i=j) w' μ' (Ra (TI h r) (S j).H.length o) (a.put s.dst v):=by
 have u:j<xs.length:=(Zb.1 M).1;have Z:(S (j+1)).H.length=(S j).H.length+o.length:=by rw[W];simp only[];rw[QJ,Zk,UX]
 have a1:(S 0).H.length<=(S j).H.length:=R.Rz 0 j (by omega) (by omega) fun k xk _ P y=>R.inner y (by omega)
 have K:Xn (S (j+1)).H=Ra (TI (Xn (S j).H) r) (S j).H.length o:=by
  obtain⟨e1,e2⟩:=mh r (S j).H fun q C=>(G q C).1
  rw[W];simp only[];rw[QJ,er,e1,e2]
 have l:∀id,id∉(F j).wr->¬((S j).H.length<=id/\id<(S (j+1)).H.length)->Ra (TI h r) (S j).H.length o id=h id:=by
  intro id N Q;rw[Rk o _ _ id (by rw[Z]at Q;omega),RQ r h id (by rw[<-U];exact N)]
 refine⟨by rw[(put_defers a s.dst v).1];exact p.jR.mono hm,(put_defers a s.dst v).2.trans p.sz,fun i I m c t D dd J=> ?_,fun t D dd J=> ?_,hI,fun i m c id f=> ?_,fun id f g=> ?_,fun k P c id N Q g=> ?_,fun id h0 g=> ?_⟩
 ·rcases c with c|rfl
  ·have n:i≠j:=fun e=>x (e▸c)
   rw[Oz a s.dst v t (fl.uniq j i s I t M m (fun e=>n e.symm) D)];exact(p.done i I m c t D dd J).mono hm
  ·rw[M]at m;cases m;rw[D]at z⊢;rw[nD a t v (by rw[p.sz];exact RJ z)];rw[W,D]at J;simp only[OS,Ux,if_true]at J;cases J;exact hv
 ·have Y:s.dst≠some t:=D j s M (.inr rfl);rw[Oz a s.dst v t Y];exact(p.rest t (fun i I m c=>D i I m (.inl c)) dd J).mono hm
 ·rcases c with c|rfl
  ·have n:i≠j:=fun e=>x (e▸c)
   have y:xs[i]? =some xs[i]:=Zf m;rw[l id ((tc.wr i j _ y u n id f).1) fun hr=> ?_]
   ·exact p.wr i m c id f
   ·obtain⟨_,_,e1,e2⟩:=R.oU j s M;exact x (X i _ y c j (tc.made j i _ u y (fun e=>n e.symm) id (by rw[e1];exact hr.1) (by rw[e2];exact hr.2) (.inr f)))
  ·rw[U]at f;have A:id<(S i).H.length:=by
    obtain⟨q,C,rfl⟩:=ZQ.1 f;exact(G q C).1
   rw[K,Rk o _ _ id (.inl A),Rk o _ _ id (.inl A)];exact mK r _ _ id f
 ·rw[l id (g j u (.inr rfl)) (by omega)];exact p.FR id f fun i m c=>g i m (.inl c)
 ·rcases c with c|rfl
  ·have n:k≠j:=fun e=>x (e▸c)
   have B:¬((S j).H.length<=id/\id<(S (j+1)).H.length):=by
    intro hr;rcases Nat.lt_or_gt_of_ne n with A|hgt
    ·have:=R.Rz (k+1) j (by omega) (by omega) fun q xq _ C y=>R.inner y (by omega)
     omega
    ·have:=R.Rz (j+1) k (by omega) (by omega) fun q xq _ C y=>R.inner y (by omega)
     omega
   rw[l id (g j u (.inr rfl)) B];exact p.new k P c id N Q fun i m V=>g i m (.inl V)
  ·rw[K];exact mL o _ _ _ id N (by omega)
 ·have B:¬((S j).H.length<=id/\id<(S (j+1)).H.length):=g j u (.inr rfl);have hn:=p.none id h0 fun k P c=>g k P (.inl c)
  have a0:id∉(F j).wr:=by
   intro hw;rw[U]at hw;obtain⟨q,C,rfl⟩:=ZQ.1 hw;obtain⟨b,hb⟩:=(G q C).2;rw[hn]at hb;cases hb
  rw[l id a0 B];exact hn
end
end Go.Ev
namespace Go.Ev
open Go.RowKit
theorem filter_lt {e:Type}(p q:e->Bool):∀(l:List e),(∀x∈l,q x=true->p x=true)->(∃x∈l,p x=true/\q x=false)->(l.filter q).length<(l.filter p).length
 |[],_,h=>by obtain⟨x,a,_⟩:=h;simp at a
 |y::l,h1,h2=>by
  have f:(l.filter q).length<=(l.filter p).length:=by
   clear h2;induction l with
   |nil=>simp
   |cons z l k=>
    have m:=h1 z (by simp);have:=k fun x a=>h1 x (by rcases Zj.1 a with h|h<;>simp[h])
    cases i:q z<;>cases g:p z<;>simp_all<;>omega
  by_cases d:p y=true/\q y=false
  ·simp[d.1,d.2];omega
  ·have c:∃x∈l,p x=true/\q x=false:=by
    obtain⟨x,a,b⟩:=h2;rcases Zj.1 a with rfl|a
    ·exact absurd b d
    ·exact⟨x,a,b⟩
   have:=filter_lt p q l (fun x a=>h1 x (by simp[a])) c;have j:=h1 y (by simp);cases i:q y<;>cases g:p y<;>simp_all
def CP (n:Nat)(listed:Array Bool):Nat:=((List.range n).filter fun i=> !listed.getD i false).length
theorem sF (n:Nat)(a:Array Bool)(i:Nat)(c:i<n)(d:a.size=n)(h:a.getD i false=false):CP n (a.setIfInBounds i true)<CP n a:=by
 refine filter_lt _ _ _ (fun x _ b=> ?_) ⟨i,List.mem_range.2 c,by simp[h],?_⟩
 ·by_cases e:i=x
  ·subst e;rw[ZN,YJ (by omega)]at b;simp at b
  ·rw[ZN,Array.getElem?_setIfInBounds_ne e,<-ZN]at b;exact b
 ·rw[ZN,YJ (by omega)];rfl
theorem mN (n:Nat)(a:Array Bool)(h:CP n a=0):∀i,i<n->a.getD i false=true:=by
 intro i b;unfold CP at h;have:=Yq h;rw[List.filter_eq_nil_iff]at this;simpa using this i (List.mem_range.2 b)
theorem Qi (b:Array Oper)(a:Array Bool)(i:Nat):i∈Region.ready .any b a↔i<b.size/\a.getD i true=false/\∀o,b[i]? =some o->∀e∈o.after,Region.binds .any e=true->a.getD e.on false=true:=by
 unfold Region.ready;rw[YD,List.mem_range];constructor
 ·intro⟨d,c⟩;simp only[Zs,Yx]at c;refine⟨d,c.1,fun o g e h f=> ?_⟩;have:=c.2;rw[g]at this;simp only[Z4,Option.getD_some,Array.all_eq_true_iff_forall_mem]at this;have:=this e h;simpa[f]using this
 ·intro⟨d,c,j⟩;refine⟨d,?_⟩;simp only[Zs,Yx];refine⟨c,?_⟩;have g:b[i]? =some b[i]:=Array.getElem?_eq_getElem d;rw[g];simp only[Z4,Option.getD_some,Array.all_eq_true_iff_forall_mem];intro e h;cases f:Region.binds .any e with
  |false=>rfl
  |true=>simpa[f]using j _ g e h f
section
variable {lo:Nat}{P:Program}{E:Xa}{base nt:Nat}{O:BS}{xs:List Xw}{S:Nat->St}{F:Nat->RO}{L:Nat->Prop}{w:World}{μ:Nat->Nat}{h:HF}{a:Act}
theorem qk.Er (R:qk E base xs S F){i:Nat}{c:Xw}(h:xs[i]? =some c)(g:Xk E c.op=false):∀id∈(F i).wr,id<(S i).H.length:=by
 intro id a;rcases kA (R.step i c h) g with⟨_,_,_,e⟩|⟨_,k,r,_,d,_,_,e⟩
 ·rw[e]at a;simp at a
 ·rw[e]at a;obtain⟨q,j,rfl⟩:=ZQ.1 a;obtain⟨b,f⟩:=ee E base c.op k _ _ r d q j;simp only[Xn]at f;exact(Zb.1 f).1
theorem Part.full (p:Part lo nt O xs S F L w μ h a)(R:qk E base xs S F)(N:sk xs)(U:Touch xs F)(m:Nat)(z:m<=xs.length)(x:∀i,i<xs.length->(L i↔i<m))(g:∀(k:Nat) (o:Xw),k<m->xs[k]? =some o->Xk E o.op=false):
  Wu lo nt O w μ h a (S m).T/\h=Xn (S m).H:=by
 have f:∀(i:Nat) (b:i<xs.length),xs[i]? =some (xs[i]'b):=fun i b=>Zf b
 have v:∀(i:Nat) (l:Xw),xs[i]? =some l->i<xs.length:=fun i l b=>(Zb.1 b).1
 refine⟨⟨p.jR,p.sz,fun t d C=> ?_⟩,?_⟩
 ·by_cases e:∃(i:Nat) (l:Xw),xs[i]? =some l/\i<m/\l.dst=some t
  ·obtain⟨i,l,b,n,c⟩:=e;have:=R.Qf t (i+1) m (by omega) z fun k o I r j=>N.uniq k i o l t j b (by omega) c
   rw[this]at C;exact p.done i l b ((x i (v i l b)).2 n) t c d C
  ·have:=R.Qf t 0 m (by omega) z fun k o _ r j c=>e ⟨k,o,j,r,c⟩
   rw[this]at C;exact p.rest t (fun i l b u c=>e ⟨i,l,b,(x i (v i l b)).1 u,c⟩) d C
 ·funext id;by_cases e:∃i,i<m/\id∈(F i).wr
  ·obtain⟨i,n,s⟩:=e;have b:i<xs.length:=by omega
   rw[p.wr i b ((x i b).2 n) id s];have M:=R.Er (f i b) (g i _ n (f i b)) id s;have V:=(qu (R.step i _ (f i b)) (g i _ n (f i b))).1;exact((R.Oh id (i+1) (by omega) m (by omega) z fun k o I r j=>⟨g k o r j,(U.wr i k _ (f i b) (v k o j) (by omega) id s).1⟩).1).symm
  ·have A:∀i,i<xs.length->L i->id∉(F i).wr:=fun i b u s=>e ⟨i,(x i b).1 u,s⟩
   by_cases h0:id<(S 0).H.length
   ·rw[p.FR id h0 A];exact((R.Oh id 0 h0 m (by omega) z fun k o _ y B=>⟨g k o y B,fun s=>e ⟨k,y,s⟩⟩).1).symm
   ·by_cases M:id<(S m).H.length
    ·obtain⟨k,y,P,K⟩:=Cy S id (by omega) m M;rw[p.new k (by omega) ((x k (by omega)).2 y) id P K A];exact((R.Oh id (k+1) K m (by omega) z fun q J _ D B=>⟨g q J D B,fun s=>e ⟨q,D,s⟩⟩).1).symm
    ·rw[p.none id (by omega) fun k y G W=> ?_]
     ·simp only[Xn];rw[YB (by omega)]
     ·have Q:=(x k y).1 G;have:=R.Rz (k+1) m (by omega) z fun q J _ D B=>g q J D B
      omega
theorem aB (E:Xa)(base:Nat)(heap:Bool)(x y:Xw)(s:St)(b:x.dst=y.dst)(c:x.op=y.op)(e:x.args=y.args)(h:x.guard=y.guard):W3 E base heap x s=W3 E base heap y s:=by
 obtain⟨d,o,a,g,f⟩:=x;obtain⟨j,m,i,l,k⟩:=y;simp only at b c e h;subst b;subst c;subst e;subst h;rfl
theorem UW {a:List Oper}{o:Oper}{b:Xw}(h:Uo P nt a o=some b):XR P o.op=some (b.op,b.args)/\Ss a o.guard=some b.guard/\b.dst=o.dst/\Pp nt o.dst=true/\b.after=(o.after.toList.filter (Region.binds .any)).map (·.on):=by
 unfold Uo at h;cases c:XR P o.op with
 |none=>simp[c]at h
 |some q=>
 obtain⟨f,args⟩:=q;simp only[c]at h;cases d:Ss a o.guard with
 |none=>simp[d]at h
 |some g=>
 simp only[d]at h;split at h<;>simp only[Za,reduceCtorEq]at h;rename_i e;subst h;exact⟨rfl,rfl,rfl,e,rfl⟩
end
end Go.Ev
namespace Go.Ev
open Go.RowKit
theorem lC (n:Nat)(p:Nat->Bool):(∀i,i<n->p i=true)\/∃i,i<n/\p i=false/\∀k,k<i->p k=true:=by
 induction n with
 |zero=>exact .inl fun i b=>by omega
 |succ n c=>
  rcases c with h|⟨i,h1,h2,h3⟩
  ·cases a:p n with
   |true=>exact .inl fun i b=>by by_cases e:i=n;exact e▸a;exact h i (by omega)
   |false=>exact .inr ⟨n,by omega,a,h⟩
  ·exact .inr ⟨i,by omega,h2,h3⟩
theorem TS (l:Array Bool)(i:Nat)(h:i<l.size):l.getD i true=l.getD i false:=by
 simp[h]
theorem pM {F:Fence}{n:Nat}{P:Program}{c:Array Oper}{Q:Exit->Act->World->Prop}(d:Nat)(b:Array Bool)(a:Act)(w:World)(j:b.size=c.size)(f:∀i,i<c.size->b.getD i false=true)(g:Q .normal a w):wpAnyIn F n P .any c Q d b a w:=by
 have h:Region.ready .any c b=[]:=by
  apply List.eq_nil_iff_forall_not_mem.2;intro i e;rw[Qi]at e;have:=f i e.1;rw[TS b i (by omega),this]at e;exact absurd e.2.1 (by simp)
 cases d with
 |zero=>exact⟨h,g⟩
 |succ k=>exact⟨fun _=>g,fun i e=>by rw[h]at e;simp at e⟩
theorem Ru (l:Array Bool)(i k:Nat)(a:i<l.size):(l.setIfInBounds i true).getD k false=true↔l.getD k false=true\/k=i:=by
 by_cases e:i=k
 ·subst e;rw[ZN,YJ a];simp
 ·rw[ZN,Array.getElem?_setIfInBounds_ne e,<-ZN];constructor
  ·exact .inl
  ·rintro (h|h)
   ·exact h
   ·exact absurd h.symm e
theorem qW {lo nt:Nat}{O:BS}{xs:List Xw}{S:Nat->St}{F:Nat->RO}{L b:Nat->Prop}{w:World}{μ:Nat->Nat}{h:HF}{a:Act}(c:L=b)(p:Part lo nt O xs S F L w μ h a):Part lo nt O xs S F b w μ h a:=c▸p
theorem BX (E:Xa)(base:Nat)(G:aT)(H:List DV)(h:HF)(n:Nat)(r:Vc)(a:X8 E base G H h n=some r):∀id∈r.rd,∃b,h id=some b:=by
 have v:∀f D,Vk E h f D=some r->∀id∈r.rd,∃b,h id=some b:=by
  intro f D t id g;have F:r.rd=D.flatMap (S7 h):=by
   unfold Vk at t;split at t
   ·split at t
    ·split at t
     ·simp only[YG]at t;split at t<;>simp only[Za]at t<;>subst t<;>rfl
     ·simp at t
    ·simp at t
   ·simp at t
  rw[F]at g;obtain⟨d,_,I⟩:=Yo.1 g;exact bS d id I
 have l:∀(y:DL) (w:List (List DL)) (u:List Nat),Wp h y=some (w,u)->∀id∈u,∃b,h id=some b:=by
  intro y w u p id g;unfold Wp at p;split at p
  ·simp only[Za,Zo]at p;obtain⟨_,rfl⟩:=p;simp at g
  ·simp only[Za,Zo]at p;obtain⟨_,rfl⟩:=p;simp at g
  ·split at p
   ·rename_i b o;obtain⟨_,m⟩:=Xv p;simp only[Zo]at m;obtain⟨_,rfl⟩:=m;simp at g;subst g;exact⟨b,o⟩
   ·simp at p
  ·simp at p
 cases G with
 |call f=>exact v f H a
 |TF=>
  simp only[X8,SA]at a;split at a
  ·exact v _ _ a
  ·exact v _ _ a
  ·simp at a
 |load x C=>
  simp only[X8,QX]at a;split at a
  ·split at a<;>simp only[Za,reduceCtorEq]at a;subst a;intro id g;simp[Vc.pure]at g
  ·rename_i id XX i K;split at a
   ·rename_i c p;obtain⟨_,a⟩:=X3 a;split at a<;>simp only[Za,reduceCtorEq]at a;subst a;intro J g;simp at g;subst g;unfold SF at p;split at p
    ·rename_i b o;exact⟨b,o⟩
    ·simp at p
   ·simp at a
  ·simp at a
 |store C=>
  simp only[X8,RS]at a;split at a
  ·split at a
   ·rename_i b o;split at a
    ·simp only[QO]at a;obtain⟨_,a⟩:=X3 a;split at a
     ·obtain⟨_,rfl⟩:=Xv a;intro q j;simp at j;subst j;exact⟨b,o⟩
     ·simp at a
    ·simp at a
   ·simp at a
  ·simp at a
 |Q7 C=>
  simp only[X8,Vv]at a;split at a
  ·split at a
   ·obtain⟨_,rfl⟩:=Xv a;intro id g;simp[Vc.pure]at g
   ·simp at a
  ·split at a
   ·rename_i b o;obtain⟨_,rfl⟩:=Xv a;intro q j;simp at j;subst j;exact⟨b,o⟩
   ·simp at a
  ·simp at a
 |slice C lo M=>
  simp only[X8,RT]at a;split at a
  ·split at a
   ·rename_i d O s;simp only[Za]at a;subst a;intro id g;unfold WI at s;split at s
    ·obtain⟨_,m⟩:=Xv s;simp only[Zo]at m;obtain⟨_,rfl⟩:=m;simp at g
    ·obtain⟨_,m⟩:=Xv s;simp only[Zo]at m;obtain⟨_,rfl⟩:=m;simp at g
    ·split at s
     ·rename_i b o;obtain⟨_,m⟩:=Xv s;simp only[Zo]at m;obtain⟨_,rfl⟩:=m;simp at g;subst g;exact⟨b,o⟩
     ·simp at s
    ·simp at s
   ·simp at a
  ·simp at a
 |append e C bytes=>
  simp only[X8,W6]at a;split at a
  ·split at a
   ·rename_i w u p;obtain⟨_,a⟩:=X3 a;split at a
    ·simp only[WQ]at a;obtain⟨_,a⟩:=X3 a;split at a<;>simp only[Za]at a<;>subst a<;>exact l _ _ _ p
    ·split at a
     ·rename_i b o;rw[YG]at a;split at a
      ·simp only[U4]at a;obtain⟨_,rfl⟩:=Xv a;intro q j;rcases Zj.1 j with rfl|j
       ·exact⟨b,o⟩
       ·exact l _ _ _ p q j
      ·simp only[S2]at a;obtain⟨_,rfl⟩:=Xv a;intro q j;rcases Zj.1 j with rfl|j
       ·exact⟨b,o⟩
       ·exact l _ _ _ p q j
     ·simp at a
    ·simp at a
   ·simp at a
  ·simp at a
 |clear z=>
  simp only[X8,RU]at a;split at a
  ·split at a
   ·rename_i b o;obtain⟨_,rfl⟩:=Xv a;intro q j;simp at j;subst j;exact⟨b,o⟩
   ·simp at a
  ·simp at a
 |copy C=>
  simp only[X8,QZ]at a;split at a
  ·split at a
   ·rename_i b o;split at a
    ·rename_i w u p;simp only[Ob]at a;obtain⟨_,rfl⟩:=Xv a;intro q j;rcases Zj.1 j with rfl|j
     ·exact⟨b,o⟩
     ·exact l _ _ _ p q j
    ·simp at a
   ·simp at a
  ·simp at a
 |lookup B k x z N=>
  simp only[X8,UO]at a;split at a
  ·split at a
   ·rename_i b o;simp only[Nn,YG]at a
    (repeat' split at a)<;>simp only[Za,reduceCtorEq]at a<;>subst a<;>(intro q j;simp at j;subst j;exact⟨b,o⟩)
   ·simp at a
  ·simp at a
 |mapUpdate B k x L=>
  simp only[X8,Vf]at a;split at a
  ·split at a
   ·rename_i b o;split at a
    ·obtain⟨_,a⟩:=X3 a;unfold eB at a;split at a<;>simp only[Za,reduceCtorEq]at a<;>subst a<;>(intro q j;simp at j;subst j;exact⟨b,o⟩)
    ·simp at a
   ·simp at a
  ·simp at a
 |PY=>
  simp only[X8,Tb]at a;split at a
  ·split at a
   ·rename_i b o;obtain⟨_,rfl⟩:=Xv a;intro q j;simp at j;subst j;exact⟨b,o⟩
   ·simp at a
  ·simp at a
 |_=>
  have A:r.rd=[]:=by
   simp only[X8,Nc,Sj,Nb,aj,RV,Q0,VN,fE,Ng,VZ,Ul,fD,Nf,V6,SN,VR,UP,QY,Sk,Qn,Nd,V5,Rx,UN,TA,Ql,YG]at a
   (repeat' split at a)<;>simp only[Za,reduceCtorEq]at a<;>subst a<;>rfl
  rw[A];simp
theorem OW:∀(l:List Xw) (m:Nat),TK m l=true->∀(i:Nat) (a:Xw),l[i]? =some a->∀k,k<m+i->k∈a.after
 |[],_,_,i,a,hi=>by simp at hi
 |o::os,m,h,i,a,hi=>by
  simp only[TK,Zs]at h;intro k b;cases i with
  |zero=>simp at hi;subst hi;exact Pk _ _ h.1 k (by omega)
  |succ i=>exact OW os (m+1) h.2 i a (by simpa using hi) k (by omega)
def E9 (P:Program)(nt:Nat)(ops:Array Oper)(ys:List Xw):Prop:=
 ∀(i:Nat) (xo:Xw),ys[i]? =some xo->∃o xo0,ops[i]? =some o/\Uo P nt ops.toList o=some xo0/\xo.dst=xo0.dst/\xo.op=xo0.op/\xo.args=xo0.args/\xo.guard=xo0.guard/\(∀k∈xo0.after,k∈xo.after)/\
  (∀k∈xo.after,k∈xo0.after\/∃j∈xo0.after,∃p,ys[j]? =some p/\k∈p.after)
theorem CU {P:Program}{E:Xa}(hE:Wq P E){F:Fence}(hF:VY F){n lo base nt:Nat}{O:BS}{h:Array Oper}{g:List Xw}(a9:g.length=h.size)(C:E9 P nt h g)(fl:sk g)
  {m:Nat} (S:∀(i:Nat) (I:Xw),m<=i->g[i]? =some I->∀k,k<i->k∈I.after) {Q:Exit->Act->World->Prop} {w:World} {μ:Nat->Nat} {hh:HF} {s':St}
  (hk:∀a' w' μ',X0 w' O μ' (Xn s'.H)->Wu lo nt O w' μ' (Xn s'.H) a' s'.T->WD O w μ hh w' μ' (Xn s'.H)->Q .normal a' w'):
  ∀(d k:Nat) (b:Array Bool) (a:Act) (w':World) (μ':Nat->Nat) (s:St),b.size=g.length->CP g.length b<=d->m<=k->k<=g.length->(∀i,b.getD i false=true↔i<k)->V9 E base (g.drop k) s=some s'->
   X0 w' O μ' (Xn s.H)->Wu lo nt O w' μ' (Xn s.H) a s.T->WD O w μ hh w' μ' (Xn s.H)->wpAnyIn F n P .any h Q d b a w':=by
 intro d;induction d with
 |zero=>
  intro k b a w' μ' s D N a6 a5 r c U u t;have x:=mN _ _ (Nat.le_zero.1 N);have A:k=g.length:=by
   rcases Yj k g.length with h1|h1
   ·have:=(r k).1 (x k h1);omega
   ·omega
  subst A;simp only[List.drop_length,V9,Za]at c;subst c;exact pM 0 b a w' (by omega) (fun i V=>x i (by omega)) (hk a w' μ' U u t)
 |succ d ih=>
  intro k b a w' μ' s D N a6 a5 r c U u t;rcases Yj k g.length with hlt|J
  ·have R:g[k]? =some g[k]:=Zf hlt;rw[ZV hlt]at c;generalize g[k]=I at R c;simp only[V9]at c;cases v:W3 E base true I s with
   |none=>simp[v]at c
   |some q=>
   obtain⟨s2,rd,wr⟩:=q;simp only[v]at c;have K:b.getD k false=false:=by
    cases Y:b.getD k false with
    |false=>rfl
    |true=>have:=(r k).1 Y;omega
   refine⟨fun hr=> ?_,fun i V=> ?_⟩
   ·exfalso;obtain⟨o,p,L,G,_,_,_,_,g5,_⟩:=C k _ R;have z:k∈Region.ready .any h b:=by
     rw[Qi];refine⟨by omega,by rw[TS b k (by omega)];exact K,fun o' M e Z Y=> ?_⟩;rw[L]at M;cases M;have X:=(UW G).2.2.2.2;have :e.on∈p.after:=by rw[X];exact ZQ.2 ⟨e,YD.2 ⟨by simpa using Z,Y⟩,rfl⟩
     exact(r _).2 (fl.back k _ R _ (g5 _ this))
    rw[hr]at z;simp at z
   ·rw[Qi]at V;obtain⟨a8,B,a3⟩:=V;rw[TS b i (by omega)]at B;have l:g[i]? =some (g[i]'(by omega)):=Zf (by omega);generalize g[i]'(by omega)=xi at l;have a4:i=k:=by
     have J:k<=i:=by
      rcases Yj i k with h1|h1
      ·have:=(r i).2 h1;rw[this]at B;cases B
      ·exact h1
     rcases Nat.eq_or_lt_of_le J with e|h1
     ·exact e.symm
     ·exfalso;obtain⟨o,p,L,G,_,_,_,_,_,g6⟩:=C i xi l;have c5:=(UW G).2.2.2.2;have y:∀q∈p.after,b.getD q false=true:=by
       intro q W;rw[c5]at W;obtain⟨e,Z,rfl⟩:=ZQ.1 W;obtain⟨a0,a1⟩:=YD.1 Z;exact a3 o L e (by simpa using a0) a1
      rcases g6 k (S i xi (by omega) l k h1)with h2|⟨j,hj,q,W,hkq⟩
      ·have:=(r k).1 (y k h2);omega
      ·have h3:=(r j).1 (y j hj);have h4:=fl.back j q W k hkq;omega
    subst a4;rw[R]at l;cases l;obtain⟨o,p,L,G,g1,g2,g3,g4,g5,g6⟩:=C i I R;have c1:=(UW G).1;rw[aB E base true I p _ g1 g2 g3 g4]at v;unfold wpOpIn;rw[L];simp only[];have:=bY E hE base true h.toList G (next:=wpAnyIn F n P .any h Q d (b.setIfInBounds i true)) (Q:=Q) v U u fun a2 w2 a7 k1 k2 k3=>by
     refine ih (i+1) _ a2 w2 a7 s2 (by simpa using D) ?_ (by omega) (by omega) (fun q=> ?_) c k1 k2 (t.trans k3)
     ·have:=sF g.length b i hlt D K;omega
     ·rw[Ru b i q (by omega),r q];omega
    simp only[Array.toArray_toList]at this;rcases this with⟨t1,t2⟩|⟨t1,t2⟩
    ·rw[if_pos t1];exact ai hF (TY c1) t2
    ·rw[if_neg (by rw[t1];simp)];exact⟨fun f _=>hF.fn f,t2⟩
  ·have A:k=g.length:=by omega
   subst A;simp only[List.drop_length,V9,Za]at c;subst c;exact pM _ b a w' (by omega) (fun i V=>(r i).2 (by omega)) (hk a w' μ' U u t)
theorem uk {P:Program}{E:Xa}(hE:Wq P E)(e2:P.follows .mixedOrders=true):Oo P E:=by
 intro F n hF O lo base nt h7 u os xs f3 hm e1 A e0 s s1 s' hd b5 a w μ hI b3 Q y;obtain⟨a9,Z⟩:=sa os;generalize WG [] os=ys at a9 Z e1 A;obtain⟨S,Ft,R,d0,a7,d2⟩:=A1 E base xs s s1 hd;have b6:=BR ys e1;have a5:∀(i:Nat) (g:Xw),xs[i]? =some g->ys[i]? =some g:=fun i g l=>by
  rw[A,ZB (Zb.1 l).1];exact l
 have e9:∀(i:Nat) (g:Xw),i<xs.length->ys[i]? =some g->xs[i]? =some g:=fun i g hl l=>by
  rw[A,ZB hl]at l;exact l
 have fl:sk xs:=⟨fun i g l=>b6.back i g (a5 i g l),fun i j N xj d l hj=>b6.uniq i j N xj d (a5 _ _ l) (a5 _ _ hj),fun i j N xj d l hj=>b6.order i j N xj d (a5 _ _ l) (a5 _ _ hj)⟩;have tc:=xt R d2;obtain⟨h4,d8⟩:=Td hm;have d7:ys.length=u.size:=by rw[a9,<-h4];simp
 have b1:xs.length<=ys.length:=by rw[A];simp
 have V:ys.drop xs.length=f3:=by rw[A];simp
 have c9:∀(i:Nat) (g:Xw),xs.length<=i->ys[i]? =some g->∀k,k<i->k∈g.after:=fun i g hl l k y=>by
  rw[A,ZL hl]at l;exact OW f3 xs.length e0 (i-xs.length) g l k (by omega)
 have d9:E9 P nt u ys:=by
  intro i g l;obtain⟨z,h0,g1,g2,g3,g4,g5,g6⟩:=Z i g l;obtain⟨o,ho,hc⟩:=d8 i z h0;exact⟨o,z,by simpa using ho,hc,g1,g2,g3,g4,g5,g6⟩
 refine wpIn_region_any e2 ?_;have G:=CU (n:=n) (lo:=lo) (base:=base) (O:=O) (Q:=Q) (w:=w) (μ:=μ) (hh:=Xn s.H) (s':=s') hE hF d7 d9 b6 c9 y;have f0:∀(m:Nat) (c:Array Bool) (a:Act) (w':World) (μ':Nat->Nat) (h:HF),c.size=ys.length->CP ys.length c<=m->(∀i,c.getD i false=true->i<xs.length)->
   Part lo nt O xs S Ft (fun i=>c.getD i false=true) w' μ' h a->
   (∀(i:Nat) (N:Xw),xs[i]? =some N->c.getD i false=true->(∀k∈N.after,c.getD k false=true)/\Xk E N.op=false)->
   WD O w μ (Xn s.H) w' μ' h->wpAnyIn F n P .any u Q m c a w':=by
  intro m;induction m with
  |zero=>
   intro c a w' μ' h a4 b7 a8 p a1 X;have J:=mN _ _ (Nat.le_zero.1 b7);have U:∀i,i<xs.length->c.getD i false=true:=fun i l=>J i (by omega)
   obtain⟨h1,h2⟩:=p.full R fl tc xs.length (Zh _) (fun i l=>⟨fun _=>l,fun _=>U i l⟩) fun k xk y K=>(a1 k xk K (U k y)).2
   subst h2;rw[a7]at h1 X;exact G 0 xs.length c a w' μ' s1 a4 b7 (Zh _) b1 (fun i=>⟨a8 i,U i⟩) (by rw[V];exact b5) (by have:=p.inv;rwa[a7]at this) h1 X
  |succ m ih=>
   intro c a w' μ' h a4 b7 a8 p a1 X;have h6:∀(i:Nat) (N:Xw),xs[i]? =some N->i<xs.length:=fun i N l=>(Zb.1 l).1
   have B:∀(i:Nat) (N:Xw),xs[i]? =some N->c.getD i false=true->∀k∈N.after,c.getD k false=true:=fun i N l I=>(a1 i N l I).1
   rcases lC xs.length (fun i=>c.getD i false)with J|⟨i0,hi0,hu0,hmin⟩
   ·obtain⟨g1,g2⟩:=p.full R fl tc xs.length (Zh _) (fun i l=>⟨fun _=>l,fun _=>J i l⟩) fun k xk y K=>(a1 k xk K (J k y)).2
    subst g2;rw[a7]at g1 X;exact G _ xs.length c a w' μ' s1 a4 b7 (Zh _) b1 (fun i=>⟨a8 i,J i⟩) (by rw[V];exact b5) (by have:=p.inv;rwa[a7]at this) g1 X
   refine⟨fun hr=> ?_,fun i l=> ?_⟩
   ·exfalso;have K:xs[i0]? =some xs[i0]:=Zf hi0;obtain⟨o,z,ho,hc,_,_,_,_,g5,_⟩:=d9 i0 _ (a5 _ _ K);have c7:i0∈Region.ready .any u c:=by
     rw[Qi];refine⟨by omega,by rw[TS c i0 (by omega)];exact hu0,fun o' e3 e he hb=> ?_⟩;rw[ho]at e3;cases e3;have C:=(UW hc).2.2.2.2;have :e.on∈z.after:=by rw[C];exact ZQ.2 ⟨e,YD.2 ⟨by simpa using he,hb⟩,rfl⟩
     exact hmin _ (fl.back i0 _ K _ (g5 _ this))
    rw[hr]at c7;simp at c7
   ·rw[Qi]at l;obtain⟨h5,d5,g0⟩:=l;rw[TS c i (by omega)]at d5;have e8:i<ys.length:=by omega
    have a0:ys[i]? =some ys[i]:=Zf e8;generalize ys[i]=g at a0;obtain⟨o,z,ho,hc,g1,g2,g3,g4,g5,g6⟩:=d9 i g a0;obtain⟨c1,c2,c3,c4,c5⟩:=UW hc;have a3:¬c.getD i false=true:=by rw[d5];simp
    have b0:∀k∈z.after,c.getD k false=true:=by
     intro k y;rw[c5]at y;obtain⟨e,he,rfl⟩:=ZQ.1 y;obtain⟨f8,f9⟩:=YD.1 he;exact g0 o ho e (by simpa using f8) f9
    have C:∀k∈g.after,c.getD k false=true:=by
     intro k y;rcases g6 k y with h1|⟨j,hj,q,hq,hkq⟩
     ·exact b0 k h1
     ·exact B j q (e9 j q (a8 j (b0 j hj)) hq) (b0 j hj) k hkq
    have c0:i<xs.length:=by
     rcases Yj i xs.length with h1|h1
     ·exact h1
     ·have:=C i0 (c9 i g h1 a0 i0 (by omega));rw[this]at hu0;cases hu0
    have K:=e9 i g c0 a0;have c8:CP ys.length (c.setIfInBounds i true)<=m:=by
     have:=sF ys.length c i e8 a4 d5;omega
    have b8:∀k,(c.setIfInBounds i true).getD k false=true->k<xs.length:=fun k y=>by
     rcases(Ru c i k (by omega)).1 y with h1|rfl
     ·exact a8 k h1
     ·exact c0
    have b2:∀(a2:Act) (w2:World) (M:Nat->Nat) (h2:HF),Xk E g.op=false->Part lo nt O xs S Ft (fun k=>c.getD k false=true\/k=i) w2 M h2 a2->WD O w' μ' h w2 M h2->
      wpAnyIn F n P .any u Q m (c.setIfInBounds i true) a2 w2:=by
     intro a2 w2 M h2 hh p2 g9;refine ih _ a2 w2 M h2 (by simpa using a4) c8 b8 (qW ?_ p2) ?_ (X.trans g9)
     ·funext k;exact propext (Ru c i k (by omega)).symm
     ·intro k xk L I;rcases(Ru c i k (by omega)).1 I with I|rfl
      ·exact⟨fun q hq=>(Ru c i q (by omega)).2 (.inl (B k xk L I q hq)),(a1 k xk L I).2⟩
      ·rw[K]at L;cases L;exact⟨fun q hq=>(Ru c k q (by omega)).2 (.inl (C q hq)),hh⟩
    unfold wpOpIn;rw[ho];simp only[];cases hh:Xk E g.op with
    |true=>
     obtain⟨g8,d4⟩:=R.heap i g K hh;obtain⟨f1,f2⟩:=p.full R fl tc i (by omega) (fun k y=>⟨fun I=>by
      by_cases e:k=i
      ·subst e;exact absurd I a3
      ·omega,fun y=>C k (d4 k y)⟩) fun k xk y L=>(a1 k xk L (C k (d4 k y))).2
     subst f2;have e6:=R.step i g K;rw[hh,aB E base true g z _ g1 g2 g3 g4]at e6;have:=bY E hE base true u.toList hc (next:=wpAnyIn F n P .any u Q m (c.setIfInBounds i true)) (Q:=Q) e6 p.inv f1 fun a2 w2 M k1 k2 k3=>by
      rw[g8,a7]at k1 k2 k3;refine G m xs.length _ a2 w2 M s1 (by simpa using a4) c8 (Zh _) b1 (fun q=>⟨b8 q,fun hq=>(Ru c i q (by omega)).2 ?_⟩) (by rw[V];exact b5) k1 k2 (X.trans k3);by_cases e:q=i
      ·exact .inr e
      ·exact .inl (C q (d4 q (by omega)))
     simp only[Array.toArray_toList]at this;rcases this with⟨t1,t2⟩|⟨t1,t2⟩
     ·rw[if_pos t1];exact ai hF (TY c1) t2
     ·rw[if_neg (by rw[t1];simp)];exact⟨fun f _=>hF.fn f,t2⟩
    |false=>
     have b3:=p.iW R fl K a3 C B;have d3:∀t b,g.guard=some (t,b)->t∈g.tmps:=by
      intro t b hg;simp[Xw.tmps,hg]
     have f7:∀x∈g.args,∀t∈x.tmp,t∈g.tmps:=by
      intro x K t ht;simp only[Xw.tmps,Yc,Yo];exact .inl ⟨x,K,ht⟩
     have b9:Pp nt g.dst=true:=by rw[g1,c3];exact c4
     have e4:o.dst=g.dst:=by rw[g1,c3]
     rcases kA (R.step i g K) hh with⟨s1,s2,s3,s4⟩|⟨s1,vs,r,s2,s3,s4,s5,s6⟩
     ·have hw:=ga b3 u.toList o.guard z.guard c2 false (by rw[<-g4,gb _ _ _ d3];exact s1) o rfl;simp only[Array.toArray_toList]at hw;rw[if_neg (by rw[hw];simp),e4];refine⟨fun f _=>hF.fn f,b2 _ w' μ' h hh ?_ (WD.refl _ _ _ _)⟩;exact p.add R fl tc K a3 B b9 (.XZ []) undef [] [] (by rw[s2];rfl) s4 (by simp) ⟨[],rfl,.nil⟩ p.inv (WD.refl _ _ _ _)
     ·have hw:=ga b3 u.toList o.guard z.guard c2 true (by rw[<-g4,gb _ _ _ d3];exact s1) o rfl;simp only[Array.toArray_toList]at hw;rw[if_pos hw];refine ai hF (TY c1) ?_;have D:∀(k:Nat) (xk:Xw),k<i->xs[k]? =some xk->Xk E xk.op=false:=fun k xk y L=>R.inner L (by omega)
      have e5:∀id∈r.rd,id<(S i).H.length:=fun id W=>by
       obtain⟨b,hb⟩:=BX E base g.op vs _ _ r s3 id W;simp only[Xn]at hb;exact(Zb.1 hb).1
      have c6:X8 E base g.op vs h (S i).H.length=some r:=
       rT E base g.op vs _ r s3 fun id W=>p.heap R fl tc K a3 C B D id (by rw[s5];exact W) (e5 id W)
      have d1:Xt (W8.eval (VH (S i).T g.tmps)) z.args=some vs:=by
       rw[<-g3,<-s2];exact fL _ fun x Y=>wu _ _ x fun t ht=>f7 x Y t ht
      have e7:∀q∈r.wr,q.1<(S i).H.length/\∃b,h q.1=some b:=fun q hq=>by
       obtain⟨b,hb⟩:=ee E base g.op vs _ _ r s3 q hq;simp only[Xn]at hb;exact⟨(Zb.1 hb).1,ee E base g.op vs _ _ r c6 q hq⟩
      have d6:r.al≠[]->h (S i).H.length=none:=by
       intro f6;have f4:(S 0).H.length<=(S i).H.length:=R.Rz 0 i (by omega) (by omega) fun k xk _ y Y=>D k xk y Y
       refine p.none _ f4 fun k y f5 hr=> ?_
       have g7:k≠i:=fun e=>a3 (e▸f5)
       rcases Nat.lt_or_gt_of_ne g7 with hlt'|d3
       ·have:=R.Rz (k+1) i (by omega) (by omega) fun q xq _ hq Y=>D q xq hq Y
        omega
       ·have h1:(S (i+1)).H.length=(S i).H.length+r.al.length:=by rw[s4];simp only[];rw[QJ,Zk,UX]
        have h2:=R.Rz (i+1) k (by omega) (by omega) fun q xq _ hq Y=>R.inner Y (by omega)
        have h3:0<r.al.length:=List.length_pos_iff.2 f6;omega
      rw[<-g2]at c1;refine uf E hE base c1 b3 vs d1 r c6 d6 p.inv fun v w2 M k1 k2 k3=> ?_
      rw[e4];exact b2 _ w2 M _ hh (p.add R fl tc K a3 B b9 r.val v r.wr r.al s4 s6 e7 k1 k2 k3) k3
 obtain⟨gm,gi⟩:=Tu (w':={w with drawn:=w.drawn+1}) hI (Zh _) (fun _ _=>rfl) rfl rfl rfl;have b4:=b3.mono gm;have a6:∀i,¬((Array.replicate u.size false).getD i false=true):=by
  intro i l;rw[ZN]at l;by_cases h:i<u.size
  ·simp[h]at l
  ·simp[h]at l
 refine f0 u.size (Array.replicate u.size false) a _ μ (Xn s.H) (by simp[d7]) ?_ (fun i I=>absurd I (a6 i)) ?_ (fun i N _ I=>absurd I (a6 i)) gm
 ·rw[<-d7];exact Zy (List.length_filter_le _ _) (by simp)
 ·refine⟨b4.jR,b4.sz,fun i g _ I=>absurd I (a6 i),fun t _ d hd=>b4.slot t d (by rw[<-d0];exact hd),gi,fun i _ I=>absurd I (a6 i),fun id _ _=>by rw[d0],fun k _ I=>absurd I (a6 k),fun id W _=> ?_⟩;rw[d0]at W;simp only[Xn];exact YB W
end Go.Ev
