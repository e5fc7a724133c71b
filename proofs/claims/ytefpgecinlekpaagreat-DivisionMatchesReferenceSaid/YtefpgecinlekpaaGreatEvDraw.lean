/- Regions that draw their order, first part: an operation looks only at what it says; the run in the order of the text. -/
import Derived.Test.YtefpgecinlekpaaGreatEvFun
namespace Go.Ev
open Go.RowKit
theorem Ng {h q:HF}:∀(k:Nat) (l:DL) (z:PL),XB k h l=some z->(∀id∈WY k h l,q id=h id)->XB k q l=some z/\WY k q l=WY k h l:=by
 have o:∀(k:Nat),(∀(l:DL) (z:PL),XB k h l=some z->(∀id∈WY k h l,q id=h id)->XB k q l=some z/\WY k q l=WY k h l)->
   ∀(x:List DL) (v:List PL),Xt (XB k h) x=some v->(∀id∈x.flatMap (WY k h),q id=h id)->Xt (XB k q) x=some v/\x.flatMap (WY k q)=x.flatMap (WY k h):=by
  intro k C x;induction x with
  |nil=>intro v m _;exact⟨by rw[dE m];rfl,rfl⟩
  |cons l x L=>
   intro v m a;obtain⟨p,Q,P,J,rfl⟩:=map_cons m;simp only[Yo,ZV]at a;obtain⟨t,u⟩:=C l p P fun id d=>a id (.inl d)
   obtain⟨F,G⟩:=L Q J fun id d=>a id (.inr d)
   exact⟨by simp[Xt,t,F],by simp[Yo,u,G]⟩
 intro k;induction k with
 |zero=>
  intro l z g _;cases l with
  |p l=>simp only[XB]at g⊢;exact⟨g,by simp[WY]⟩
  |own=>simp[XB]at g
  |ptr=>simp[XB]at g
  |fn=>simp[XB]at g
  |mp=>simp[XB]at g
 |succ k C=>
  intro l z g a;cases l with
  |p l=>simp only[XB]at g⊢;exact⟨g,by simp[WY]⟩
  |mp _=>simp[XB]at g
  |fn f w=>
   simp only[XB]at g;cases m:Xt (XB k h) w with
   |none=>simp[m]at g
   |some N=>
   simp only[m,Za]at g;subst g;simp only[WY]at a;obtain⟨t,u⟩:=o k C w N m a;exact⟨by simp[XB,t],by simp only[WY];exact u⟩
  |own id XZ y M=>
   simp only[XB]at g;cases r:h id with
   |none=>simp[r]at g
   |some b=>
   simp only[r]at g;simp only[WY,r,Zk]at a;have s:q id=some b:=by rw[a id (.inl rfl)];exact r
   obtain⟨n,j⟩:=XX g;cases m:Xt (Xt (XB k h)) ((b.ch.drop y).take M)with
   |none=>simp[m]at j
   |some A=>
   simp only[m,Za]at j;subst j;have E:∀(ch:List (List DL)) (A:List (List PL)),Xt (Xt (XB k h)) ch=some A->(∀id∈ch.flatMap (fun c=>c.flatMap (WY k h)),q id=h id)->
     Xt (Xt (XB k q)) ch=some A/\(ch.flatMap fun c=>c.flatMap (WY k q))=ch.flatMap fun c=>c.flatMap (WY k h):=by
    intro ch;induction ch with
    |nil=>intro A m _;exact⟨by rw[dE m];rfl,rfl⟩
    |cons c ch K=>
     intro A m I;obtain⟨e,D,O,H,rfl⟩:=map_cons m;simp only[Yo,ZV]at I;obtain⟨t,u⟩:=o k C c e O fun id d=>I id (.inl d)
     obtain⟨F,G⟩:=K D H fun id d=>I id (.inr d)
     exact⟨by simp[Xt,t,F],by simp[Yo,u,G]⟩
   obtain⟨t,u⟩:=E _ _ m fun id d=>a id (.inr d)
   refine⟨by simp only[XB,s,n,cond_true,t],?_⟩;simp only[WY,s,r,u]
  |ptr id XZ i y=>
   simp only[XB]at g;cases r:h id with
   |none=>simp[r]at g
   |some b=>
   simp only[r]at g;obtain⟨n,j⟩:=XX g;cases B:b.ch[i]? with
   |none=>simp[B]at j
   |some c=>
   simp only[B]at j;simp only[WY,r,B,Zk]at a;have s:q id=some b:=by rw[a id (.inl rfl)];exact r
   cases m:Xt (XB k h) (c.drop y)with
   |none=>simp[m]at j
   |some N=>
   simp only[m,Za]at j;subst j;obtain⟨t,u⟩:=o k C _ _ m fun id d=>a id (.inr d)
   refine⟨by simp only[XB,s,n,cond_true,B,t],?_⟩;simp only[WY,s,r,B,u]
theorem gd {h i:HF}(d:DV)(p:PV)(c:XU h d=some p)(a:∀id∈Sa h d,i id=h id):XU i d=some p/\Sa i d=Sa h d:=by
 cases d with
 |XY _=>simp[XU]at c
 |one l=>
  simp only[XU]at c;cases g:XB Wn h l with
  |none=>simp[g]at c
  |some v=>
  simp only[g,Za]at c;subst c;obtain⟨j,k⟩:=Ng _ l v g a;exact⟨by simp[XU,j],k⟩
 |agg r=>
  simp only[XU]at c;cases g:Xt (XB Wn h) r with
  |none=>simp[g]at c
  |some b=>
  simp only[g,Za]at c;subst c;have m:∀(e:List DL) (b:List PL),Xt (XB Wn h) e=some b->(∀id∈e.flatMap (WY Wn h),i id=h id)->Xt (XB Wn i) e=some b/\e.flatMap (WY Wn i)=e.flatMap (WY Wn h):=by
   intro e;induction e with
   |nil=>intro b n _;exact⟨by rw[dE n];rfl,rfl⟩
   |cons l e q=>
    intro b n a;obtain⟨p,w,u,o,rfl⟩:=map_cons n;simp only[Yo,ZV]at a;obtain⟨j,k⟩:=Ng _ l p u fun id f=>a id (.inl f)
    obtain⟨s,t⟩:=q w o fun id f=>a id (.inr f)
    exact⟨by simp[Xt,j,s],by simp[Yo,k,t]⟩
  obtain⟨j,k⟩:=m r b g a;exact⟨by simp[XU,j],k⟩
theorem Ov {h j:HF}(l:DL)(g:List (List DL))(d:List Nat)(a:Wt h l=some (g,d))(f:∀id∈d,j id=h id):Wt j l=some (g,d):=by
 unfold Wt at a⊢;split at a
 ·exact a
 ·exact a
 ·rename_i id XZ m k;cases i:h id with
  |none=>simp[i]at a
  |some b=>
  simp only[i]at a;obtain⟨c,e⟩:=Xw a;simp only[Zn]at e;obtain⟨rfl,rfl⟩:=e;rw[f id (by simp),i];simp only[c,cond_true]
 ·simp at a
theorem filterMap_eq {a c:Type}{f g:a->Option c}:∀(l:List a),(∀x∈l,f x=g x)->l.filterMap f=l.filterMap g
 |[],_=>rfl
 |x::xs,h=>by
  rw[List.filterMap_cons,List.filterMap_cons,h x (by simp),filterMap_eq xs fun y b=>h y (by simp[b])]
theorem Pt (E:Xb){h j:HF}(f:Nat)(i:List DV)(r:W5)(c:WO E h f i=some r)(a:∀id∈r.rd,j id=h id):WO E j f i=some r:=by
 unfold WO at c⊢;split at c
 ·cases k:Xt (XU h) i with
  |none=>simp[k]at c
  |some g=>
  simp only[k]at c;cases s:E.pure f g with
  |none=>simp[s]at c
  |some z=>
  simp only[s]at c;have v:r.rd=i.flatMap (Sa h):=by
   simp only[Yz]at c;split at c<;>simp only[Za]at c<;>subst c<;>rfl
  rw[v]at a;have m:∀(e:List DV) (g:List PV),Xt (XU h) e=some g->(∀id∈e.flatMap (Sa h),j id=h id)->Xt (XU j) e=some g/\e.flatMap (Sa j)=e.flatMap (Sa h):=by
   intro e;induction e with
   |nil=>intro x t _;exact⟨by rw[dE t];rfl,rfl⟩
   |cons l e w=>
    intro x t a;obtain⟨p,g,k,u,rfl⟩:=map_cons t;simp only[Yo,ZV]at a;obtain⟨n,o⟩:=gd l p k fun id d=>a id (.inl d)
    obtain⟨q,y⟩:=w g u fun id d=>a id (.inr d)
    exact⟨by simp[Xt,n,q],by simp[Yo,o,y]⟩
  obtain⟨n,o⟩:=m i g k a;have q:(i.flatMap (Sa h)).filterMap (fun id=>(j id).map fun b=>(id,{b with fz:=true}))=(i.flatMap (Sa h)).filterMap (fun id=>(h id).map fun b=>(id,{b with fz:=true})):=by
   refine filterMap_eq _ fun id d=> ?_
   rw[a id d]
  simp only[n,s,o,q];exact c
 ·simp at c
theorem rB (E:Xb)(base:Nat)(O:aX)(N:List DV){h s:HF}(n:Nat)(r:W5)(a:Wc E base O N h n=some r)(g:∀id∈r.rd,s id=h id):Wc E base O N s n=some r:=by
 cases O with
 |call f=>exact Pt E f N r a g
 |U3=>
  simp only[Wc,UY]at a⊢;split at a
  ·exact Pt E _ _ r a g
  ·exact Pt E _ _ r a g
  ·simp at a
 |load H G=>
  simp only[Wc,Pe]at a⊢;split at a
  ·exact a
  ·rename_i id XZ i B;cases v:SI h id XZ i with
   |none=>simp[v]at a
   |some c=>
   simp only[v]at a;have m:s id=h id:=by
    obtain⟨_,a⟩:=XX a;split at a<;>simp only[Za,reduceCtorEq]at a;subst a;exact g id (by simp)
   have w:SI s id XZ i=some c:=by unfold SI at v⊢;rw[m];exact v
   simp only[w];exact a
  ·simp at a
 |store G=>
  simp only[Wc,R4]at a⊢;split at a
  ·rename_i id XZ i B x;cases o:h id with
   |none=>simp[o]at a
   |some b=>
   simp only[o]at a;have m:s id=h id:=by
    split at a
    ·simp only[Q2]at a;obtain⟨_,a⟩:=XX a;split at a
     ·obtain⟨_,rfl⟩:=Xw a;exact g id (by simp)
     ·simp at a
    ·simp at a
   simp only[m,o];exact a
  ·simp at a
 |Pr G=>
  simp only[Wc,VA]at a⊢;split at a
  ·exact a
  ·rename_i id XZ B C k i;cases o:h id with
   |none=>simp[o]at a
   |some b=>
   simp only[o]at a;have m:s id=h id:=by
    obtain⟨_,rfl⟩:=Xw a;exact g id (by simp)
   simp only[m,o];exact a
  ·simp at a
 |slice G lo Q=>
  simp only[Wc,R5]at a⊢;cases P:VO lo Q N with
  |none=>simp[P]at a
  |some q=>
  obtain⟨x,l,u⟩:=q;simp only[P]at a⊢;cases p:WH G h x l u with
  |none=>simp[p]at a
  |some T=>
  obtain⟨d,U⟩:=T;simp only[p,Za]at a;subst a;have :WH G s x l u=some (d,U):=by
   unfold WH at p⊢;split at p
   ·exact p
   ·exact p
   ·rename_i id XZ B C;cases o:h id with
    |none=>simp[o]at p
    |some b=>
    simp only[o]at p;obtain⟨D,J⟩:=Xw p;simp only[Zn]at J;obtain⟨rfl,rfl⟩:=J;rw[g id (by simp),o];simp only[D,cond_true]
   ·simp at p
  simp only[this]
 |append e G bytes=>
  simp only[Wc,W3]at a⊢;split at a
  ·rename_i x y;cases v:Wt h y with
   |none=>simp[v]at a
   |some q=>
   obtain⟨F,A⟩:=q;simp only[v]at a;obtain⟨I,j⟩:=XX a;have L:∀id∈A,id∈r.rd:=by
    split at j
    ·simp only[WK]at j;obtain⟨_,j⟩:=XX j;split at j<;>simp only[Za]at j<;>subst j<;>exact fun id h=>h
    ·split at j
     ·rw[Yz]at j;split at j
      ·simp only[U1]at j;obtain⟨_,rfl⟩:=Xw j;intro id h;simp[h]
      ·simp only[S2]at j;obtain⟨_,rfl⟩:=Xw j;intro id h;simp[h]
     ·simp at j
    ·simp at j
   have w:=Ov y F A v fun id m=>g id (L id m)
   simp only[w,I,cond_true];split at j
   ·exact j
   ·rename_i id XZ C;cases o:h id with
    |none=>simp[o]at j
    |some b=>
    simp only[o]at j;have m:s id=h id:=by
     have t:=j;rw[Yz]at t;split at t
     ·simp only[U1]at t;obtain⟨_,rfl⟩:=Xw t;exact g id (by simp)
     ·simp only[S2]at t;obtain⟨_,rfl⟩:=Xw t;exact g id (by simp)
    simp only[m,o];exact j
   ·simp at j
  ·simp at a
 |clear z=>
  simp only[Wc,R7]at a⊢;split at a
  ·rename_i id XZ B C;cases o:h id with
   |none=>simp[o]at a
   |some b=>
   simp only[o]at a;have m:s id=h id:=by
    obtain⟨_,rfl⟩:=Xw a;exact g id (by simp)
   simp only[m,o];exact a
  ·simp at a
 |copy G=>
  simp only[Wc,Pg]at a⊢;split at a
  ·rename_i id XZ B C y;cases o:h id with
   |none=>simp[o]at a
   |some b=>
   simp only[o]at a;cases v:Wt h y with
   |none=>simp[v]at a
   |some q=>
   obtain⟨F,A⟩:=q;simp only[v]at a;have K:r.rd=id::A:=by
    simp only[Oq]at a;obtain⟨_,rfl⟩:=Xw a;rfl
   have m:s id=h id:=g id (by rw[K];simp);have w:=Ov y F A v fun q R=>g q (by rw[K];simp[R])
   simp only[m,o,w];exact a
  ·simp at a
 |lookup M k H z W=>
  simp only[Wc,UL]at a⊢;split at a
  ·rename_i id S;cases o:h id with
   |none=>simp[o]at a
   |some b=>
   simp only[o]at a;have m:s id=h id:=by
    refine g id ?_;simp only[NA,Yz]at a
    (repeat' split at a)<;>simp only[Za,reduceCtorEq]at a<;>subst a<;>simp
   simp only[m,o];exact a
  ·simp at a
 |mapUpdate M k H V=>
  simp only[Wc,Vf]at a⊢;split at a
  ·rename_i id S x;cases o:h id with
   |none=>simp[o]at a
   |some b=>
   simp only[o]at a;have m:s id=h id:=by
    refine g id ?_;split at a
    ·obtain⟨_,a⟩:=XX a;unfold ez at a;split at a<;>simp only[Za,reduceCtorEq]at a<;>subst a<;>simp
    ·simp at a
   simp only[m,o];exact a
  ·simp at a
 |Oc=>
  simp only[Wc,Tb]at a⊢;split at a
  ·rename_i id;cases o:h id with
   |none=>simp[o]at a
   |some b=>
   simp only[o]at a;have m:s id=h id:=by
    obtain⟨_,rfl⟩:=Xw a;exact g id (by simp)
   simp only[m,o];exact a
  ·simp at a
 |_=>exact a
structure pU (E:Xb)(base:Nat)(xs:List Xx)(S:Nat->St)(F:Nat->RW):Prop where
 step:∀i xo,xs[i]? =some xo->WZ E base (Xk E xo.op) xo (S i)=some (S (i+1),(F i).rd,(F i).wr)
 oK:∀i xo,xs[i]? =some xo->(F i).i=i/\(F i).after=xo.after/\(F i).lo=(S i).H.length/\(F i).hi=(S (i+1)).H.length
 heap:∀i xo,xs[i]? =some xo->Xk E xo.op=true->i+1=xs.length/\∀k,k<i->k∈xo.after
theorem Pz (l:List Nat):∀(i:Nat),TZ l i=true->∀k,k<i->k∈l
 |0,_,k,hk=>by omega
 |i+1,h,k,hk=>by
  simp only[TZ,Zp]at h;by_cases e:k=i
  ·subst e;simpa using h.1
  ·exact Pz l i h.2 k (by omega)
theorem xC (E:Xb)(base:Nat):∀(xs:List Xx) (i:Nat) (s f:St) (e:List RW),Uy E base i xs s=some (f,e)->
  ∃(S:Nat->St) (F:Nat->RW),S 0=s/\S xs.length=f/\e=(List.range xs.length).map F/\
   (∀k a,xs[k]? =some a->WZ E base (Xk E a.op) a (S k)=some (S (k+1),(F k).rd,(F k).wr))/\
   (∀k a,xs[k]? =some a->(F k).i=i+k/\(F k).after=a.after/\(F k).lo=(S k).H.length/\(F k).hi=(S (k+1)).H.length)/\
   (∀k a,xs[k]? =some a->Xk E a.op=true->k+1=xs.length/\∀q,q<i+k->q∈a.after)
 |[],i,s,f,e,h=>by
  simp only[Uy,Za,Zn]at h;obtain⟨rfl,rfl⟩:=h;exact⟨fun _=>s,fun _=>⟨0,[],[],[],0,0⟩,rfl,rfl,rfl,fun k a b=>by simp at b,fun k a b=>by simp at b,fun k a b=>by simp at b⟩
 |o::os,i,s,f,e,h=>by
  simp only[Uy]at h;cases c:(Xk E o.op&& !(os.isEmpty&&TZ o.after i))with
  |true=>rw[c]at h;simp at h
  |false=>
  rw[c,cond_false]at h;cases m:WZ E base (Xk E o.op) o s with
  |none=>simp[m]at h
  |some q=>
  obtain⟨g,x,y⟩:=q;simp only[m]at h;cases t:Uy E base (i+1) os g with
  |none=>simp[t]at h
  |some D=>
  obtain⟨G,j⟩:=D;simp only[t,Za,Zn]at h;obtain⟨rfl,rfl⟩:=h;obtain⟨S,F,h0,B,n,u,p,r⟩:=xC E base os (i+1) g G j t;refine⟨fun k=>match k with |0=>s|k+1=>S k,fun k=>match k with |0=>⟨i,x,y,o.after,s.H.length,g.H.length⟩|k+1=>F k,rfl,B,?_,?_,?_,?_⟩
  ·rw[Zi,List.range_succ_eq_map,Zw,List.map_map,n];rfl
  ·intro k a b;cases k with
   |zero=>simp at b;subst b;show WZ E base (Xk E o.op) o s=some (S 0,x,y);rw[h0];exact m
   |succ k=>exact u k a (by simpa using b)
  ·intro k a b;cases k with
   |zero=>simp at b;subst b;exact⟨rfl,rfl,rfl,by show g.H.length=(S 0).H.length;rw[h0]⟩
   |succ k=>
    obtain⟨v,l,z,A⟩:=p k a (by simpa using b);exact⟨by rw[v];omega,l,z,A⟩
  ·intro k a b w;cases k with
   |zero=>
    simp at b;subst b;rw[w]at c;simp only[Bool.true_and,Bool.not_eq_false',Zp]at c;have d:os=[]:=by simpa using c.1
    exact⟨by simp[d],fun q C=>Pz _ _ c.2 q (by omega)⟩
   |succ k=>
    obtain⟨v,l⟩:=r k a (by simpa using b) w;exact⟨by simp;omega,fun q C=>l q (by omega)⟩
theorem A4 (E:Xb)(base:Nat)(xs:List Xx)(s t:St)(h:Uz E base xs s=some t):
  ∃S F,pU E base xs S F/\S 0=s/\S xs.length=t/\∀i j,i<xs.length->j<xs.length->i≠j->Oh (F i) (F j)=true\/((F i).wr=[]/\(F i).lo=(F i).hi):=by
 unfold Uz at h;cases d:Uy E base 0 xs s with
 |none=>simp[d]at h
 |some q=>
 obtain⟨x,o⟩:=q;simp only[d]at h;obtain⟨e,rfl⟩:=Xw h;obtain⟨S,F,h0,w,f,m,g,l⟩:=xC E base xs 0 s x o d;refine⟨S,F,⟨m,fun i n b=>by obtain⟨p,c⟩:=g i n b;exact⟨by omega,c⟩,fun i n b u=>by obtain⟨p,c⟩:=l i n b u;exact⟨p,fun k r=>c k (by omega)⟩⟩,h0,w,fun i j b v _=> ?_⟩;unfold Rl at e;rw[ZP]at e;have a:∀k,k<xs.length->F k∈o:=fun k r=>by rw[f];exact ZH.2 ⟨k,List.mem_range.2 r,rfl⟩
 have:=e (F i) (a i b);rw[Bool.or_eq_true]at this;rcases this with h1|h1
 ·rw[Zp]at h1;exact .inr ⟨by simpa using h1.1,Zm h1.2⟩
 ·exact .inl (ZP.1 h1 (F j) (a j v))
theorem NC {E:Xb}{a:Option Nat}{f:Nat}{d:List DV}{s b:St}{c e:List Nat}(h:W7 E a f d s=some (b,c,e)):∃v,b.T=O4 s.T a v:=by
 unfold W7 at h;split at h
 ·split at h
  ·simp only[TQ,Za,Zn]at h;obtain⟨rfl,_,_⟩:=h;exact⟨_,rfl⟩
  ·simp at h
 ·simp at h
theorem Db {E:Xb}{base:Nat}{a:Xx}{s b:St}{c d:List Nat}(h:WZ E base (Xk E a.op) a s=some (b,c,d)):∃v,b.T=O4 s.T a.dst v:=by
 unfold WZ at h;split at h
 ·simp at h
 ·simp only[TQ,Za,Zn]at h;obtain⟨rfl,_,_⟩:=h;exact⟨_,rfl⟩
 ·split at h
  ·simp at h
  ·simp only[Yz]at h;split at h
   ·unfold QM at h;split at h
    ·exact NC h
    ·split at h
     ·exact NC h
     ·exact NC h
     ·simp at h
    ·simp at h
   ·split at h
    ·simp only[QN,NR,TQ,aZ,gO,Za,Zn]at h;obtain⟨rfl,_,_⟩:=h;exact⟨_,rfl⟩
    ·simp at h
theorem ky {E:Xb}{base:Nat}{a:Xx}{s f:St}{e g:List Nat}(h:WZ E base (Xk E a.op) a s=some (f,e,g))(i:Xk E a.op=false):
  (UD s.T a.guard=some false/\f=⟨O4 s.T a.dst (.XY []),s.H⟩/\e=[]/\g=[])\/
  (UD s.T a.guard=some true/\∃b r,Xt (W8.eval s.T) a.args=some b/\Wc E base a.op b (Xl s.H) s.H.length=some r/\f=⟨O4 s.T a.dst r.val,OB (VH s.H r.wr) r.al⟩/\e=r.rd/\g=r.wr.map (·.1)):=by
 unfold WZ at h;split at h
 ·simp at h
 ·rename_i c;simp only[TQ,Za,Zn]at h;obtain⟨rfl,rfl,rfl⟩:=h;exact .inl ⟨c,rfl,rfl,rfl⟩
 ·rename_i c;right;refine⟨c,?_⟩;split at h
  ·simp at h
  ·rename_i b d;rw[i]at h;simp only[Bool.false_and,cond_false]at h;split at h
   ·rename_i r j;simp only[QN,NR,TQ,aZ,gO,Za,Zn]at h;obtain⟨rfl,rfl,rfl⟩:=h;exact⟨b,r,d,j,rfl,rfl,rfl⟩
   ·simp at h
theorem vV (T:List (Nat×DV))(a:Option Nat)(v:DV)(t:Nat)(h:a≠some t):Xh (O4 T a v) t=Xh T t:=by
 cases a with
 |none=>rfl
 |some d=>
  simp only[O4,Uv];rw[if_neg (fun e=>h (by rw[e]))]
section
variable {E:Xb}{base:Nat}{xs:List Xx}{S:Nat->St}{F:Nat->RW}
theorem pU.Qw (R:pU E base xs S F)(t a:Nat):∀(b:Nat),a<=b->b<=xs.length->(∀k c,a<=k->k<b->xs[k]? =some c->c.dst≠some t)->Xh (S b).T t=Xh (S a).T t:=by
 intro b;induction b with
 |zero=>intro h _ _;rw[show a=0 by omega]
 |succ b m=>
  intro n o d;by_cases e:a=b+1
  ·rw[e]
  ·have f:xs[b]? =some xs[b]:=Zg (by omega);obtain⟨v,j⟩:=Db (R.step b _ f);rw[j,vV _ _ _ _ (d b _ (by omega) (by omega) f)];exact m (by omega) (by omega) fun k c g i l=>d k c g (by omega) l
theorem iJ (H a:List Xz)(id:Nat)(h:id<H.length):Xl (OB H a) id=Xl H id:=by
 rw[QY];simp[Xl,ZC h]
theorem UT:∀(a:List (Nat×Xz)) (H:List Xz),(VH H a).length=H.length
 |[],_=>rfl
 |(id,b)::a,H=>by simp only[VH];rw[UT a];simp
theorem du:∀(a:List (Nat×Xz)) (H:List Xz) (id:Nat),id∉a.map (·.1)->Xl (VH H a) id=Xl H id
 |[],_,_,_=>rfl
 |(i,b)::a,H,id,h=>by
  simp only[Zw,Zk,not_or]at h;simp only[VH];rw[du a _ id h.2];simp only[Xl];rw[ZB (fun e=>h.1 e.symm)]
theorem p7 {c:Xx}{s b:St}{g d:List Nat}(h:WZ E base (Xk E c.op) c s=some (b,g,d))(e:Xk E c.op=false):s.H.length<=b.H.length/\∀id,id<s.H.length->id∉d->Xl b.H id=Xl s.H id:=by
 rcases ky h e with⟨_,rfl,_,_⟩|⟨_,i,r,_,_,rfl,_,rfl⟩
 ·exact⟨Zh _,fun _ _ _=>rfl⟩
 ·refine⟨by simp only[];rw[QY,Zl,UT];omega,fun id a f=> ?_⟩;simp only[];rw[iJ _ _ _ (by rw[UT];exact a),du _ _ _ f]
theorem pU.Ox (R:pU E base xs S F)(id a:Nat)(c:id<(S a).H.length):∀(b:Nat),a<=b->b<=xs.length->(∀k d,a<=k->k<b->xs[k]? =some d->Xk E d.op=false/\id∉(F k).wr)->Xl (S b).H id=Xl (S a).H id/\id<(S b).H.length:=by
 intro b;induction b with
 |zero=>intro h _ _;rw[show a=0 by omega]at c⊢;exact⟨rfl,c⟩
 |succ b r=>
  intro s t f;by_cases e:a=b+1
  ·rw[e]at c⊢;exact⟨rfl,c⟩
  ·have g:xs[b]? =some xs[b]:=Zg (by omega);obtain⟨i,j⟩:=f b _ (by omega) (by omega) g;obtain⟨u,n⟩:=p7 (R.step b _ g) i;obtain⟨p,q⟩:=r (by omega) (by omega) fun k d l m o=>f k d l (by omega) o
   exact⟨by rw[n id q j,p],by omega⟩
theorem pU.RF (R:pU E base xs S F)(a:Nat):∀(b:Nat),a<=b->b<=xs.length->(∀k c,a<=k->k<b->xs[k]? =some c->Xk E c.op=false)->(S a).H.length<=(S b).H.length:=by
 intro b;induction b with
 |zero=>intro h _ _;rw[show a=0 by omega];exact Zh _
 |succ b m=>
  intro n o d;by_cases e:a=b+1
  ·rw[e];exact Zh _
  ·have f:xs[b]? =some xs[b]:=Zg (by omega);obtain⟨j,_⟩:=p7 (R.step b _ f) (d b _ (by omega) (by omega) f);exact ZD (m (by omega) (by omega) fun k c g i l=>d k c g (by omega) l) j
theorem CN (S:Nat->St)(id:Nat)(h0:(S 0).H.length<=id):∀(b:Nat),id<(S b).H.length->∃k,k<b/\(S k).H.length<=id/\id<(S (k+1)).H.length:=by
 intro b;induction b with
 |zero=>intro h;omega
 |succ b c=>
  intro a;by_cases e:id<(S b).H.length
  ·obtain⟨k,d,r⟩:=c e;exact⟨k,by omega,r⟩
  ·exact⟨b,by omega,by omega,a⟩
end
theorem jX:∀(c done:List Xx),∃b,WD done c=done++b/\b.length=c.length/\∀(i:Nat) (y:Xx),b[i]? =some y->∃o,c[i]? =some o/\y.dst=o.dst/\y.op=o.op/\y.args=o.args/\y.guard=o.guard/\(∀k∈o.after,k∈y.after)/\
  ∀k∈y.after,k∈o.after\/∃j∈o.after,∃p,(done++b)[j]? =some p/\k∈p.after
 |[],done=>⟨[],by simp[WD],rfl,fun i y h=>by simp at h⟩
 |o::c,done=>by
  obtain⟨b,t,u,v⟩:=jX c (done++[{o with after:=dd (o.after++o.after.flatMap (ej done))}]);refine⟨{o with after:=dd (o.after++o.after.flatMap (ej done))}::b,?_,by simp[u],fun i y e=> ?_⟩
  ·simp only[WD];rw[t];simp
  ·cases i with
   |zero=>
    simp at e;subst e;refine⟨o,rfl,rfl,rfl,rfl,rfl,fun k a=>(qS _ _).2 (ZV.2 (.inl a)),fun k a=> ?_⟩;simp only[qS,ZV,Yh]at a;rcases a with a|⟨j,hj,a⟩
    ·exact .inl a
    ·right;refine⟨j,hj,?_⟩;unfold ej at a;cases d:done[j]? with
     |none=>simp[d]at a
     |some p=>
      simp only[d]at a;refine⟨p,?_,a⟩;rw[ZC (Zd.1 d).1];exact d
   |succ i=>
    obtain⟨q,f,g,l,m,n,s,r⟩:=v i y (by simpa using e);refine⟨q,by simpa using f,g,l,m,n,s,fun k a=> ?_⟩;rcases r k a with h|⟨j,hj,p,hp,hkp⟩
    ·exact .inl h
    ·exact .inr ⟨j,hj,p,by simpa using hp,hkp⟩
theorem rK (a:List Xx):(WD [] a).length=a.length/\∀(i:Nat) (y:Xx),(WD [] a)[i]? =some y->∃o,a[i]? =some o/\y.dst=o.dst/\y.op=o.op/\y.args=o.args/\y.guard=o.guard/\(∀k∈o.after,k∈y.after)/\
  ∀k∈y.after,k∈o.after\/∃j∈o.after,∃p,(WD [] a)[j]? =some p/\k∈p.after:=by
 obtain⟨e,b,d,c⟩:=jX a [];simp only[ZO]at b c;rw[b];exact⟨d,c⟩
end Go.Ev
namespace Go.Ev
open Go.RowKit
theorem UQ (T:List (Nat×DV)):∀(a:List Nat) (t:Nat),t∈a->Xh (VK T a) t=Xh T t
 |[],t,h=>by simp at h
 |k::a,t,h=>by
  simp only[VK];cases b:Xh T k with
  |none=>
   rcases Zk.1 h with rfl|h1
   ·by_cases f:t∈a
    ·exact UQ T a t f
    ·simp only[];cases g:Xh (VK T a) t with
     |none=>rw[b]
     |some d=>exact absurd (RL T a t d g) (by rw[b];simp)
   ·exact UQ T a t h1
  |some v=>
   simp only[Uv];by_cases e:k=t
   ·subst e;rw[if_pos rfl,b]
   ·rw[if_neg e];exact UQ T a t ((Zk.1 h).resolve_left fun c=>e c.symm)
theorem v8 (T:List (Nat×DV))(a:List Nat)(x:W8)(h:∀t∈x.tmp,t∈a):x.eval (VK T a)=x.eval T:=by
 cases x with
 |t n=>simp only[W8.eval];exact UQ T a n (h n (by simp[W8.tmp]))
 |c v=>rfl
theorem fH {a c:Type}{f g:a->Option c}:∀(l:List a),(∀x∈l,f x=g x)->Xt f l=Xt g l
 |[],_=>rfl
 |x::xs,h=>by simp only[Xt];rw[h x (by simp),fH xs fun y b=>h y (by simp[b])]
theorem fZ (T:List (Nat×DV))(a:List Nat)(g:Option (Nat×Bool))(h:∀t b,g=some (t,b)->t∈a):UD (VK T a) g=UD T g:=by
 cases g with
 |none=>rfl
 |some q=>obtain⟨t,b⟩:=q;simp only[UD];rw[UQ T a t (h t b rfl)]
structure rV (xs:List Xx):Prop where
 back:∀(i:Nat) (xo:Xx),xs[i]? =some xo->∀j∈xo.after,j<i
 uniq:∀(i j:Nat) (xi xj:Xx) (d:Nat),xs[i]? =some xi->xs[j]? =some xj->i≠j->xj.dst=some d->xi.dst≠some d
 order:∀(i j:Nat) (xi xj:Xx) (d:Nat),xs[i]? =some xi->xs[j]? =some xj->i≠j->xj.dst=some d->d∈xi.tmps->j∈xi.after\/i∈xj.after
theorem B7 (xs:List Xx)(h:gg xs=true):rV xs:=by
 unfold gg at h;rw[ZP]at h;have q:∀(i:Nat) (b:Xx),xs[i]? =some b->(b,i)∈xs.zipIdx:=fun i b m=>by
  rw[List.mem_zipIdx_iff_getElem?];exact m
 have m:∀(i:Nat) (b:Xx),xs[i]? =some b->(b.after.all (fun j=>Nat.blt j i)=true)/\∀(j:Nat) (g:Xx),xs[j]? =some g->i≠j->∀d,g.dst=some d->(b.dst≠some d)/\(d∈b.tmps->j∈b.after\/i∈g.after):=by
  intro i b a;have n:=h (b,i) (q i b a);simp only[Zp]at n;refine⟨n.1,fun j g f c d l=> ?_⟩;have k:=ZP.1 n.2 (g,j) (q j g f);simp only[Bool.or_eq_true,l,Zp]at k;rcases k with k|⟨k,h3⟩
  ·exact absurd (by simpa using k) c
  ·refine⟨fun e=> ?_,fun o=> ?_⟩
   ·rw[e]at k;simp at k
   ·rcases h3 with(h3|h3)|h3
    ·rw[Yx]at h3;have:=List.contains_iff_mem.2 o;rw[h3]at this;cases this
    ·exact .inl (by simpa using h3)
    ·exact .inr (by simpa using h3)
 exact⟨fun i b a j r=>RS (ZP.1 (m i b a).1 j r),fun i j p g d a f c l=>((m i p a).2 j g f c d l).1,fun i j p g d a f c l=>((m i p a).2 j g f c d l).2⟩
structure Touch (xs:List Xx)(F:Nat->RW):Prop where
 wr:∀(i j:Nat) (xi:Xx),xs[i]? =some xi->j<xs.length->i≠j->∀id∈(F i).wr,id∉(F j).wr/\(id∈(F j).rd->j∈xi.after)
 made:∀(i j:Nat) (xj:Xx),i<xs.length->xs[j]? =some xj->i≠j->∀id,(F i).lo<=id->id<(F i).hi->(id∈(F j).rd\/id∈(F j).wr)->i∈xj.after
theorem wX {E:Xb}{base:Nat}{xs:List Xx}{S:Nat->St}{F:Nat->RW}(R:pU E base xs S F)(h:∀i j,i<xs.length->j<xs.length->i≠j->Oh (F i) (F j)=true\/((F i).wr=[]/\(F i).lo=(F i).hi)):Touch xs F:=by
 have m:∀(i:Nat) (r:Xx),xs[i]? =some r->i<xs.length:=fun i r d=>(Zd.1 d).1
 have parts:∀i j,i<xs.length->j<xs.length->i≠j->Oh (F i) (F j)=true->
   (∀id∈(F i).wr,id∉(F j).wr/\(id∈(F j).rd->(F j).i∈(F i).after))/\(∀id,(F i).lo<=id->id<(F i).hi->(id∈(F j).rd\/id∈(F j).wr)->(F i).i∈(F j).after):=by
  intro i j d e b a;unfold Oh at a;have e1:=(R.oK i _ (Zg d)).1;have e2:=(R.oK j _ (Zg e)).1;rw[Bool.or_eq_true]at a;rcases a with a|a
  ·exact absurd (by rw[<-e1,<-e2];exact Zm a) b
  ·simp only[Zp,ZP]at a;obtain⟨⟨s,t⟩,u⟩:=a;refine⟨fun id c=> ?_,fun id g f l=> ?_⟩
   ·have:=s id c;simp only[Bool.or_eq_true,Yx]at this;refine⟨fun k=> ?_,fun k=> ?_⟩
    ·have h:=List.contains_iff_mem.2 k;rw[this.1]at h;cases h
    ·rcases this.2 with h|h
     ·have p:=List.contains_iff_mem.2 k;rw[h]at p;cases p
     ·simpa using h
   ·have q:(Nat.ble (F i).lo id&&Nat.blt id (F i).hi)=true:=by
     rw[Zp,Nat.ble_eq,Nat.blt_eq];exact⟨g,f⟩
    rcases l with k|k
    ·have:=t id k;rw[q]at this;simpa using this
    ·have:=u id k;rw[q]at this;simpa using this
 refine⟨fun i j v n e b id c=> ?_,fun i j w d o b id g f l=> ?_⟩
 ·have d:=m i v n;have e1:=(R.oK i _ n).2.1;have e2:=(R.oK j _ (Zg e)).1;rcases h i j d e b with a|⟨a,_⟩
  ·have:=(parts i j d e b a).1 id c;rw[e1,e2]at this;exact this
  ·rw[a]at c;simp at c
 ·have e:=m j w o;have e1:=(R.oK j _ o).2.1;have e2:=(R.oK i _ (Zg d)).1;rcases h i j d e b with a|⟨_,a⟩
  ·have:=(parts i j d e b a).2 id g f l;rw[e1,e2]at this;exact this
  ·omega
structure Part (lo nt:Nat)(O:BS)(xs:List Xx)(S:Nat->St)(F:Nat->RW)(L:Nat->Prop)(w:World)(μ:Nat->Nat)(h:HF)(a:Act):Prop where
 jV:Marks lo O w μ h a.defers
 sz:a.tmps.size=nt
 done:∀(i:Nat) (xo:Xx),xs[i]? =some xo->L i->∀t,xo.dst=some t->∀d,Xh (S (i+1)).T t=some d->XC w O μ h (a.tmps.getD t undef) d
 rest:∀t,(∀(i:Nat) (xo:Xx),xs[i]? =some xo->L i->xo.dst≠some t)->∀d,Xh (S 0).T t=some d->XC w O μ h (a.tmps.getD t undef) d
 inv:X4 w O μ h
 wr:∀i,i<xs.length->L i->∀id∈(F i).wr,h id=Xl (S (i+1)).H id
 F9:∀id,id<(S 0).H.length->(∀i,i<xs.length->L i->id∉(F i).wr)->h id=Xl (S 0).H id
 new:∀k,k<xs.length->L k->∀id,(S k).H.length<=id->id<(S (k+1)).H.length->(∀i,i<xs.length->L i->id∉(F i).wr)->h id=Xl (S (k+1)).H id
 none:∀id,(S 0).H.length<=id->(∀k,k<xs.length->L k->¬((S k).H.length<=id/\id<(S (k+1)).H.length))->h id=none
section
variable {lo:Nat}{E:Xb}{base nt:Nat}{O:BS}{xs:List Xx}{S:Nat->St}{F:Nat->RW}{L:Nat->Prop}{w:World}{μ:Nat->Nat}{h:HF}{a:Act}
theorem Part.iU (p:Part lo nt O xs S F L w μ h a)(R:pU E base xs S F)(q:rV xs){j:Nat}{r:Xx}(D:xs[j]? =some r)(x:¬L j)(B:∀k∈r.after,L k)(C:∀(i:Nat) (f:Xx),xs[i]? =some f->L i->∀k∈f.after,L k):
  Ww lo nt O w μ h a (VK (S j).T r.tmps):=by
 have Q:j<xs.length:=(Zd.1 D).1;refine⟨p.jV,p.sz,fun t d J=> ?_⟩;have H:t∈r.tmps:=by
  have z:∀(y:List Nat),Xh (VK (S j).T y) t=some d->t∈y:=by
   intro y;induction y with
   |nil=>intro h;simp[VK,Xh]at h
   |cons k y K=>
    intro h;simp only[VK]at h;cases I:Xh (S j).T k with
    |none=>simp only[I]at h;exact Zc _ (K h)
    |some v=>
     simp only[I,Uv]at h;by_cases e:k=t
     ·subst e;exact Ze ..
     ·rw[if_neg e]at h;exact Zc _ (K h)
  exact z _ J
 have c:=RL _ _ _ _ J;by_cases o:∃(i:Nat) (f:Xx),xs[i]? =some f/\i≠j/\f.dst=some t
 ·obtain⟨i,f,m,G,g⟩:=o;have N:i<xs.length:=(Zd.1 m).1;rcases q.order j i r f t D m (fun e=>G e.symm) g H with h1|h1
  ·have M:=q.back j r D i h1;have:=R.Qw t (i+1) j (by omega) (by omega) fun k l U s b=>q.uniq k i l f t b m (by omega) g
   rw[this]at c;exact p.done i f m (B i h1) t g d c
  ·have P:=q.back i f m j h1;have u:¬L i:=fun A=>x (C i f m A j h1)
   have:=R.Qw t 0 j (by omega) (by omega) fun k l _ s b=>q.uniq k i l f t b m (by omega) g
   rw[this]at c;refine p.rest t (fun k l b n=> ?_) d c;by_cases e:k=i
   ·subst e;exact absurd n u
   ·exact q.uniq k i l f t b m e g
 ·have:=R.Qw t 0 j (by omega) (by omega) fun k l _ s b g=>o ⟨k,l,b,by omega,g⟩
  rw[this]at c;refine p.rest t (fun k l b n g=> ?_) d c;exact o ⟨k,l,b,fun e=>x (e▸n),g⟩
theorem Part.heap (p:Part lo nt O xs S F L w μ h a)(R:pU E base xs S F)(K:rV xs)(B:Touch xs F){j:Nat}{C:Xx}(G:xs[j]? =some C)(o:¬L j)(v:∀k∈C.after,L k)(x:∀(i:Nat) (J:Xx),xs[i]? =some J->L i->∀k∈J.after,L k)
  (n:∀(k:Nat) (s:Xx),k<j->xs[k]? =some s->Xk E s.op=false) (id:Nat) (f:id∈(F j).rd) (m:id<(S j).H.length):h id=Xl (S j).H id:=by
 have l:j<xs.length:=(Zd.1 G).1;have c:∀i,i<xs.length->L i->id∉(F i).wr:=by
  intro i M g A;have z:i≠j:=fun e=>o (e▸g)
  have b:xs[i]? =some xs[i]:=Zg M;have:=(B.wr i j _ b l z id A).2 f;exact o (x i _ b g j this)
 have d:∀(k:Nat),k<j->id∉(F k).wr:=by
  intro k r A;have b:xs[k]? =some xs[k]:=Zg (by omega);have:=(B.wr k j _ b l (by omega) id A).2 f;have:=K.back k _ b j this;omega
 by_cases h0:id<(S 0).H.length
 ·rw[p.F9 id h0 c];exact((R.Ox id 0 h0 j (by omega) (by omega) fun k s _ r b=>⟨n k s r b,d k r⟩).1).symm
 ·obtain⟨k,r,D,t⟩:=CN S id (by omega) j m;have y:xs[k]? =some xs[k]:=Zg (by omega);obtain⟨_,_,e1,e2⟩:=R.oK k _ y;have u:L k:=v k (B.made k j C (by omega) G (by omega) id (by rw[e1];exact D) (by rw[e2];exact t) (.inl f));rw[p.new k (by omega) u id D t c];exact((R.Ox id (k+1) t j (by omega) (by omega) fun q N _ I b=>⟨n q N I b,d q I⟩).1).symm
end
end Go.Ev
namespace Go.Ev
open Go.RowKit
theorem R2:∀(a:List (Nat×Xz)) (h:HF) (id:Nat),id∉a.map (·.1)->TH h a id=h id
 |[],_,_,_=>rfl
 |(i,b)::a,h,id,hn=>by
  simp only[Zw,Zk,not_or]at hn;simp only[TH];rw[R2 a _ id hn.2];simp[hn.1]
theorem my:∀(a:List (Nat×Xz)) (h d:HF) (id:Nat),id∈a.map (·.1)->TH h a id=TH d a id
 |[],_,_,_,hn=>by simp at hn
 |(i,b)::a,h,d,id,hn=>by
  simp only[TH];by_cases c:id∈a.map (·.1)
  ·exact my a _ _ id c
  ·have :id=i:=by simpa[c]using hn
   subst this;rw[R2 a _ id c,R2 a _ id c];simp
theorem Rq:∀(a:List Xz) (h:HF) (n id:Nat),(id<n\/n+a.length<=id)->Rc h n a id=h id
 |[],_,_,_,_=>rfl
 |b::bs,h,n,id,hn=>by
  simp only[Rc];rw[Rq bs _ (n+1) id (by simp only[Zi]at hn;omega)];have :id≠n:=by simp only[Zi]at hn;omega
  simp[this]
theorem mz:∀(a:List Xz) (h c:HF) (n id:Nat),n<=id->id<n+a.length->Rc h n a id=Rc c n a id
 |[],_,_,_,_,_,hn=>by simp at hn;omega
 |b::bs,h,c,n,id,h1,hn=>by
  simp only[Rc];by_cases e:id=n
  ·subst e;rw[Rq bs _ _ _ (.inl (by omega)),Rq bs _ _ _ (.inl (by omega))];simp
  ·exact mz bs _ _ _ _ (by omega) (by simp only[Zi]at hn;omega)
section
variable {lo:Nat}{E:Xb}{base nt:Nat}{O:BS}{xs:List Xx}{S:Nat->St}{F:Nat->RW}{L:Nat->Prop}{w w':World}{μ μ':Nat->Nat}{h:HF}{a:Act}
theorem OJ (a:Act)(b:Option Nat)(v:Value)(t:Nat)(c:b≠some t):(a.put b v).tmps.getD t undef=a.tmps.getD t undef:=by
 cases b with
 |none=>rfl
 |some q=>
  have e:q≠t:=fun e=>c (by rw[e])
  simp only[Act.put];rw[ZL,Array.getElem?_setIfInBounds_ne e,ZL]
theorem ny (a:Act)(t:Nat)(v:Value)(b:t<a.tmps.size):(a.put (some t) v).tmps.getD t undef=v:=by
 simp only[Act.put];rw[ZL,YC b];rfl
theorem put_defers (a:Act)(b:Option Nat)(v:Value):(a.put b v).defers=a.defers/\(a.put b v).tmps.size=a.tmps.size:=by
 cases b<;>simp[Act.put]
theorem pU.inner (R:pU E base xs S F){i:Nat}{a:Xx}(c:xs[i]? =some a)(d:i+1<xs.length):Xk E a.op=false:=by
 cases b:Xk E a.op with
 |false=>rfl
 |true=>have:=(R.heap i a c b).1;omega
theorem Part.add (p:Part lo nt O xs S F L w μ h a)(R:pU E base xs S F)(fl:rV xs)(tc:Touch xs F){j:Nat}{s:Xx}(M:xs[j]? =some s)(x:¬L j)
  (X:∀(i:Nat) (I:Xx),xs[i]? =some I->L i->∀k∈I.after,L k) (z:PE nt s.dst=true) (d:DV) (v:Value) (r:List (Nat×Xz)) (o:List Xz)
  (W:S (j+1)=⟨O4 (S j).T s.dst d,OB (VH (S j).H r) o⟩) (U:(F j).wr=r.map (·.1)) (G:∀q∈r,q.1<(S j).H.length/\∃b,h q.1=some b)
  (hv:XC w' O μ' (Rc (TH h r) (S j).H.length o) v d) (hI:X4 w' O μ' (Rc (TH h r) (S j).H.length o)) (hm:Wo O w μ h w' μ' (Rc (TH h r) (S j).H.length o)):
  Part lo nt O xs S F (fun i=>L i\/i=j) w' μ' (Rc (TH h r) (S j).H.length o) (a.put s.dst v):=by
 have u:j<xs.length:=(Zd.1 M).1;have Z:(S (j+1)).H.length=(S j).H.length+o.length:=by rw[W];simp only[];rw[QY,Zl,UT]
 have a1:(S 0).H.length<=(S j).H.length:=R.RF 0 j (by omega) (by omega) fun k xk _ P y=>R.inner y (by omega)
 have K:Xl (S (j+1)).H=Rc (TH (Xl (S j).H) r) (S j).H.length o:=by
  obtain⟨e1,e2⟩:=l0 r (S j).H fun q C=>(G q C).1
  rw[W];simp only[];rw[QY,ep,e1,e2]
 have l:∀id,id∉(F j).wr->¬((S j).H.length<=id/\id<(S (j+1)).H.length)->Rc (TH h r) (S j).H.length o id=h id:=by
  intro id N Q;rw[Rq o _ _ id (by rw[Z]at Q;omega),R2 r h id (by rw[<-U];exact N)]
 refine⟨by rw[(put_defers a s.dst v).1];exact p.jV.mono hm,(put_defers a s.dst v).2.trans p.sz,fun i I m c t D dd J=> ?_,fun t D dd J=> ?_,hI,fun i m c id f=> ?_,fun id f g=> ?_,fun k P c id N Q g=> ?_,fun id h0 g=> ?_⟩
 ·rcases c with c|rfl
  ·have n:i≠j:=fun e=>x (e▸c)
   rw[OJ a s.dst v t (fl.uniq j i s I t M m (fun e=>n e.symm) D)];exact(p.done i I m c t D dd J).mono hm
  ·rw[M]at m;cases m;rw[D]at z⊢;rw[ny a t v (by rw[p.sz];exact RS z)];rw[W,D]at J;simp only[O4,Uv,if_true]at J;cases J;exact hv
 ·have Y:s.dst≠some t:=D j s M (.inr rfl);rw[OJ a s.dst v t Y];exact(p.rest t (fun i I m c=>D i I m (.inl c)) dd J).mono hm
 ·rcases c with c|rfl
  ·have n:i≠j:=fun e=>x (e▸c)
   have y:xs[i]? =some xs[i]:=Zg m;rw[l id ((tc.wr i j _ y u n id f).1) fun hr=> ?_]
   ·exact p.wr i m c id f
   ·obtain⟨_,_,e1,e2⟩:=R.oK j s M;exact x (X i _ y c j (tc.made j i _ u y (fun e=>n e.symm) id (by rw[e1];exact hr.1) (by rw[e2];exact hr.2) (.inr f)))
  ·rw[U]at f;have A:id<(S i).H.length:=by
    obtain⟨q,C,rfl⟩:=ZH.1 f;exact(G q C).1
   rw[K,Rq o _ _ id (.inl A),Rq o _ _ id (.inl A)];exact my r _ _ id f
 ·rw[l id (g j u (.inr rfl)) (by omega)];exact p.F9 id f fun i m c=>g i m (.inl c)
 ·rcases c with c|rfl
  ·have n:k≠j:=fun e=>x (e▸c)
   have B:¬((S j).H.length<=id/\id<(S (j+1)).H.length):=by
    intro hr;rcases Nat.lt_or_gt_of_ne n with A|hgt
    ·have:=R.RF (k+1) j (by omega) (by omega) fun q xq _ C y=>R.inner y (by omega)
     omega
    ·have:=R.RF (j+1) k (by omega) (by omega) fun q xq _ C y=>R.inner y (by omega)
     omega
   rw[l id (g j u (.inr rfl)) B];exact p.new k P c id N Q fun i m V=>g i m (.inl V)
  ·rw[K];exact mz o _ _ _ id N (by omega)
 ·have B:¬((S j).H.length<=id/\id<(S (j+1)).H.length):=g j u (.inr rfl);have hn:=p.none id h0 fun k P c=>g k P (.inl c)
  have a0:id∉(F j).wr:=by
   intro hw;rw[U]at hw;obtain⟨q,C,rfl⟩:=ZH.1 hw;obtain⟨b,hb⟩:=(G q C).2;rw[hn]at hb;cases hb
  rw[l id a0 B];exact hn
end
end Go.Ev
namespace Go.Ev
open Go.RowKit
theorem filter_lt {e:Type}(p q:e->Bool):∀(l:List e),(∀x∈l,q x=true->p x=true)->(∃x∈l,p x=true/\q x=false)->(l.filter q).length<(l.filter p).length
 |[],_,h=>by obtain⟨x,a,_⟩:=h;simp at a
 |y::l,h1,h2=>by
  have f:(l.filter q).length<=(l.filter p).length:=by
   clear h2;induction l with
   |nil=>simp
   |cons z l k=>
    have m:=h1 z (by simp);have:=k fun x a=>h1 x (by rcases Zk.1 a with h|h<;>simp[h])
    cases i:q z<;>cases g:p z<;>simp_all<;>omega
  by_cases d:p y=true/\q y=false
  ·simp[d.1,d.2];omega
  ·have c:∃x∈l,p x=true/\q x=false:=by
    obtain⟨x,a,b⟩:=h2;rcases Zk.1 a with rfl|a
    ·exact absurd b d
    ·exact⟨x,a,b⟩
   have:=filter_lt p q l (fun x a=>h1 x (by simp[a])) c;have j:=h1 y (by simp);cases i:q y<;>cases g:p y<;>simp_all
def C7 (n:Nat)(listed:Array Bool):Nat:=((List.range n).filter fun i=> !listed.getD i false).length
theorem r8 (n:Nat)(a:Array Bool)(i:Nat)(c:i<n)(d:a.size=n)(h:a.getD i false=false):C7 n (a.setIfInBounds i true)<C7 n a:=by
 refine filter_lt _ _ _ (fun x _ b=> ?_) ⟨i,List.mem_range.2 c,by simp[h],?_⟩
 ·by_cases e:i=x
  ·subst e;rw[ZL,YC (by omega)]at b;simp at b
  ·rw[ZL,Array.getElem?_setIfInBounds_ne e,<-ZL]at b;exact b
 ·rw[ZL,YC (by omega)];rfl
theorem mD (n:Nat)(a:Array Bool)(h:C7 n a=0):∀i,i<n->a.getD i false=true:=by
 intro i b;unfold C7 at h;have:=Yk h;rw[List.filter_eq_nil_iff]at this;simpa using this i (List.mem_range.2 b)
theorem Qz (b:Array Oper)(a:Array Bool)(i:Nat):i∈Region.ready .any b a↔i<b.size/\a.getD i true=false/\∀o,b[i]? =some o->∀e∈o.after,Region.binds .any e=true->a.getD e.on false=true:=by
 unfold Region.ready;rw[Yt,List.mem_range];constructor
 ·intro⟨d,c⟩;simp only[Zp,Yx]at c;refine⟨d,c.1,fun o g e h f=> ?_⟩;have:=c.2;rw[g]at this;simp only[ZU,Option.getD_some,Array.all_eq_true_iff_forall_mem]at this;have:=this e h;simpa[f]using this
 ·intro⟨d,c,j⟩;refine⟨d,?_⟩;simp only[Zp,Yx];refine⟨c,?_⟩;have g:b[i]? =some b[i]:=Array.getElem?_eq_getElem d;rw[g];simp only[ZU,Option.getD_some,Array.all_eq_true_iff_forall_mem];intro e h;cases f:Region.binds .any e with
  |false=>rfl
  |true=>simpa[f]using j _ g e h f
section
variable {lo:Nat}{P:Program}{E:Xb}{base nt:Nat}{O:BS}{xs:List Xx}{S:Nat->St}{F:Nat->RW}{L:Nat->Prop}{w:World}{μ:Nat->Nat}{h:HF}{a:Act}
theorem pU.EJ (R:pU E base xs S F){i:Nat}{c:Xx}(h:xs[i]? =some c)(g:Xk E c.op=false):∀id∈(F i).wr,id<(S i).H.length:=by
 intro id a;rcases ky (R.step i c h) g with⟨_,_,_,e⟩|⟨_,k,r,_,d,_,_,e⟩
 ·rw[e]at a;simp at a
 ·rw[e]at a;obtain⟨q,j,rfl⟩:=ZH.1 a;obtain⟨b,f⟩:=ee E base c.op k _ _ r d q j;simp only[Xl]at f;exact(Zd.1 f).1
theorem Part.full (p:Part lo nt O xs S F L w μ h a)(R:pU E base xs S F)(N:rV xs)(U:Touch xs F)(m:Nat)(z:m<=xs.length)(x:∀i,i<xs.length->(L i↔i<m))(g:∀(k:Nat) (o:Xx),k<m->xs[k]? =some o->Xk E o.op=false):
  Ww lo nt O w μ h a (S m).T/\h=Xl (S m).H:=by
 have f:∀(i:Nat) (b:i<xs.length),xs[i]? =some (xs[i]'b):=fun i b=>Zg b
 have v:∀(i:Nat) (l:Xx),xs[i]? =some l->i<xs.length:=fun i l b=>(Zd.1 b).1
 refine⟨⟨p.jV,p.sz,fun t d C=> ?_⟩,?_⟩
 ·by_cases e:∃(i:Nat) (l:Xx),xs[i]? =some l/\i<m/\l.dst=some t
  ·obtain⟨i,l,b,n,c⟩:=e;have:=R.Qw t (i+1) m (by omega) z fun k o I r j=>N.uniq k i o l t j b (by omega) c
   rw[this]at C;exact p.done i l b ((x i (v i l b)).2 n) t c d C
  ·have:=R.Qw t 0 m (by omega) z fun k o _ r j c=>e ⟨k,o,j,r,c⟩
   rw[this]at C;exact p.rest t (fun i l b u c=>e ⟨i,l,b,(x i (v i l b)).1 u,c⟩) d C
 ·funext id;by_cases e:∃i,i<m/\id∈(F i).wr
  ·obtain⟨i,n,s⟩:=e;have b:i<xs.length:=by omega
   rw[p.wr i b ((x i b).2 n) id s];have M:=R.EJ (f i b) (g i _ n (f i b)) id s;have V:=(p7 (R.step i _ (f i b)) (g i _ n (f i b))).1;exact((R.Ox id (i+1) (by omega) m (by omega) z fun k o I r j=>⟨g k o r j,(U.wr i k _ (f i b) (v k o j) (by omega) id s).1⟩).1).symm
  ·have A:∀i,i<xs.length->L i->id∉(F i).wr:=fun i b u s=>e ⟨i,(x i b).1 u,s⟩
   by_cases h0:id<(S 0).H.length
   ·rw[p.F9 id h0 A];exact((R.Ox id 0 h0 m (by omega) z fun k o _ y B=>⟨g k o y B,fun s=>e ⟨k,y,s⟩⟩).1).symm
   ·by_cases M:id<(S m).H.length
    ·obtain⟨k,y,P,K⟩:=CN S id (by omega) m M;rw[p.new k (by omega) ((x k (by omega)).2 y) id P K A];exact((R.Ox id (k+1) K m (by omega) z fun q J _ D B=>⟨g q J D B,fun s=>e ⟨q,D,s⟩⟩).1).symm
    ·rw[p.none id (by omega) fun k y G W=> ?_]
     ·simp only[Xl];rw[Yv (by omega)]
     ·have Q:=(x k y).1 G;have:=R.RF (k+1) m (by omega) z fun q J _ D B=>g q J D B
      omega
theorem aJ (E:Xb)(base:Nat)(heap:Bool)(x y:Xx)(s:St)(b:x.dst=y.dst)(c:x.op=y.op)(e:x.args=y.args)(h:x.guard=y.guard):WZ E base heap x s=WZ E base heap y s:=by
 obtain⟨d,o,a,g,f⟩:=x;obtain⟨j,m,i,l,k⟩:=y;simp only at b c e h;subst b;subst c;subst e;subst h;rfl
theorem UR {a:List Oper}{o:Oper}{b:Xx}(h:Up P nt a o=some b):XT P o.op=some (b.op,b.args)/\Sw a o.guard=some b.guard/\b.dst=o.dst/\PE nt o.dst=true/\b.after=(o.after.toList.filter (Region.binds .any)).map (·.on):=by
 unfold Up at h;cases c:XT P o.op with
 |none=>simp[c]at h
 |some q=>
 obtain⟨f,args⟩:=q;simp only[c]at h;cases d:Sw a o.guard with
 |none=>simp[d]at h
 |some g=>
 simp only[d]at h;split at h<;>simp only[Za,reduceCtorEq]at h;rename_i e;subst h;exact⟨rfl,rfl,rfl,e,rfl⟩
end
end Go.Ev
namespace Go.Ev
open Go.RowKit
theorem k9 (n:Nat)(p:Nat->Bool):(∀i,i<n->p i=true)\/∃i,i<n/\p i=false/\∀k,k<i->p k=true:=by
 induction n with
 |zero=>exact .inl fun i b=>by omega
 |succ n c=>
  rcases c with h|⟨i,h1,h2,h3⟩
  ·cases a:p n with
   |true=>exact .inl fun i b=>by by_cases e:i=n;exact e▸a;exact h i (by omega)
   |false=>exact .inr ⟨n,by omega,a,h⟩
  ·exact .inr ⟨i,by omega,h2,h3⟩
theorem TS (l:Array Bool)(i:Nat)(h:i<l.size):l.getD i true=l.getD i false:=by
 simp[h]
theorem pA {F:Fence}{n:Nat}{P:Program}{c:Array Oper}{Q:Exit->Act->World->Prop}(d:Nat)(b:Array Bool)(a:Act)(w:World)(j:b.size=c.size)(f:∀i,i<c.size->b.getD i false=true)(g:Q .normal a w):wpAnyIn F n P .any c Q d b a w:=by
 have h:Region.ready .any c b=[]:=by
  apply List.eq_nil_iff_forall_not_mem.2;intro i e;rw[Qz]at e;have:=f i e.1;rw[TS b i (by omega),this]at e;exact absurd e.2.1 (by simp)
 cases d with
 |zero=>exact⟨h,g⟩
 |succ k=>exact⟨fun _=>g,fun i e=>by rw[h]at e;simp at e⟩
theorem Rx (l:Array Bool)(i k:Nat)(a:i<l.size):(l.setIfInBounds i true).getD k false=true↔l.getD k false=true\/k=i:=by
 by_cases e:i=k
 ·subst e;rw[ZL,YC a];simp
 ·rw[ZL,Array.getElem?_setIfInBounds_ne e,<-ZL];constructor
  ·exact .inl
  ·rintro (h|h)
   ·exact h
   ·exact absurd h.symm e
theorem qH {lo nt:Nat}{O:BS}{xs:List Xx}{S:Nat->St}{F:Nat->RW}{L b:Nat->Prop}{w:World}{μ:Nat->Nat}{h:HF}{a:Act}(c:L=b)(p:Part lo nt O xs S F L w μ h a):Part lo nt O xs S F b w μ h a:=c▸p
theorem Cc (E:Xb)(base:Nat)(G:aX)(H:List DV)(h:HF)(n:Nat)(r:W5)(a:Wc E base G H h n=some r):∀id∈r.rd,∃b,h id=some b:=by
 have v:∀f D,WO E h f D=some r->∀id∈r.rd,∃b,h id=some b:=by
  intro f D t id g;have F:r.rd=D.flatMap (Sa h):=by
   unfold WO at t;split at t
   ·split at t
    ·split at t
     ·simp only[Yz]at t;split at t<;>simp only[Za]at t<;>subst t<;>rfl
     ·simp at t
    ·simp at t
   ·simp at t
  rw[F]at g;obtain⟨d,_,I⟩:=Yh.1 g;exact bR d id I
 have l:∀(y:DL) (w:List (List DL)) (u:List Nat),Wt h y=some (w,u)->∀id∈u,∃b,h id=some b:=by
  intro y w u p id g;unfold Wt at p;split at p
  ·simp only[Za,Zn]at p;obtain⟨_,rfl⟩:=p;simp at g
  ·simp only[Za,Zn]at p;obtain⟨_,rfl⟩:=p;simp at g
  ·split at p
   ·rename_i b o;obtain⟨_,m⟩:=Xw p;simp only[Zn]at m;obtain⟨_,rfl⟩:=m;simp at g;subst g;exact⟨b,o⟩
   ·simp at p
  ·simp at p
 cases G with
 |call f=>exact v f H a
 |U3=>
  simp only[Wc,UY]at a;split at a
  ·exact v _ _ a
  ·exact v _ _ a
  ·simp at a
 |load x C=>
  simp only[Wc,Pe]at a;split at a
  ·split at a<;>simp only[Za,reduceCtorEq]at a;subst a;intro id g;simp[W5.pure]at g
  ·rename_i id XZ i K;split at a
   ·rename_i c p;obtain⟨_,a⟩:=XX a;split at a<;>simp only[Za,reduceCtorEq]at a;subst a;intro J g;simp at g;subst g;unfold SI at p;split at p
    ·rename_i b o;exact⟨b,o⟩
    ·simp at p
   ·simp at a
  ·simp at a
 |store C=>
  simp only[Wc,R4]at a;split at a
  ·split at a
   ·rename_i b o;split at a
    ·simp only[Q2]at a;obtain⟨_,a⟩:=XX a;split at a
     ·obtain⟨_,rfl⟩:=Xw a;intro q j;simp at j;subst j;exact⟨b,o⟩
     ·simp at a
    ·simp at a
   ·simp at a
  ·simp at a
 |Pr C=>
  simp only[Wc,VA]at a;split at a
  ·split at a
   ·obtain⟨_,rfl⟩:=Xw a;intro id g;simp[W5.pure]at g
   ·simp at a
  ·split at a
   ·rename_i b o;obtain⟨_,rfl⟩:=Xw a;intro q j;simp at j;subst j;exact⟨b,o⟩
   ·simp at a
  ·simp at a
 |slice C lo M=>
  simp only[Wc,R5]at a;split at a
  ·split at a
   ·rename_i d O s;simp only[Za]at a;subst a;intro id g;unfold WH at s;split at s
    ·obtain⟨_,m⟩:=Xw s;simp only[Zn]at m;obtain⟨_,rfl⟩:=m;simp at g
    ·obtain⟨_,m⟩:=Xw s;simp only[Zn]at m;obtain⟨_,rfl⟩:=m;simp at g
    ·split at s
     ·rename_i b o;obtain⟨_,m⟩:=Xw s;simp only[Zn]at m;obtain⟨_,rfl⟩:=m;simp at g;subst g;exact⟨b,o⟩
     ·simp at s
    ·simp at s
   ·simp at a
  ·simp at a
 |append e C bytes=>
  simp only[Wc,W3]at a;split at a
  ·split at a
   ·rename_i w u p;obtain⟨_,a⟩:=XX a;split at a
    ·simp only[WK]at a;obtain⟨_,a⟩:=XX a;split at a<;>simp only[Za]at a<;>subst a<;>exact l _ _ _ p
    ·split at a
     ·rename_i b o;rw[Yz]at a;split at a
      ·simp only[U1]at a;obtain⟨_,rfl⟩:=Xw a;intro q j;rcases Zk.1 j with rfl|j
       ·exact⟨b,o⟩
       ·exact l _ _ _ p q j
      ·simp only[S2]at a;obtain⟨_,rfl⟩:=Xw a;intro q j;rcases Zk.1 j with rfl|j
       ·exact⟨b,o⟩
       ·exact l _ _ _ p q j
     ·simp at a
    ·simp at a
   ·simp at a
  ·simp at a
 |clear z=>
  simp only[Wc,R7]at a;split at a
  ·split at a
   ·rename_i b o;obtain⟨_,rfl⟩:=Xw a;intro q j;simp at j;subst j;exact⟨b,o⟩
   ·simp at a
  ·simp at a
 |copy C=>
  simp only[Wc,Pg]at a;split at a
  ·split at a
   ·rename_i b o;split at a
    ·rename_i w u p;simp only[Oq]at a;obtain⟨_,rfl⟩:=Xw a;intro q j;rcases Zk.1 j with rfl|j
     ·exact⟨b,o⟩
     ·exact l _ _ _ p q j
    ·simp at a
   ·simp at a
  ·simp at a
 |lookup B k x z N=>
  simp only[Wc,UL]at a;split at a
  ·split at a
   ·rename_i b o;simp only[NA,Yz]at a
    (repeat' split at a)<;>simp only[Za,reduceCtorEq]at a<;>subst a<;>(intro q j;simp at j;subst j;exact⟨b,o⟩)
   ·simp at a
  ·simp at a
 |mapUpdate B k x L=>
  simp only[Wc,Vf]at a;split at a
  ·split at a
   ·rename_i b o;split at a
    ·obtain⟨_,a⟩:=XX a;unfold ez at a;split at a<;>simp only[Za,reduceCtorEq]at a<;>subst a<;>(intro q j;simp at j;subst j;exact⟨b,o⟩)
    ·simp at a
   ·simp at a
  ·simp at a
 |Oc=>
  simp only[Wc,Tb]at a;split at a
  ·split at a
   ·rename_i b o;obtain⟨_,rfl⟩:=Xw a;intro q j;simp at j;subst j;exact⟨b,o⟩
   ·simp at a
  ·simp at a
 |_=>
  have A:r.rd=[]:=by
   simp only[Wc,Nr,Sr,Nq,ao,R8,Ph,VR,fw,Nu,VS,Vl,fv,Nt,Uc,SM,VY,TR,Pf,Ss,R6,Ns,Ub,RD,Uj,TA,QE,Yz]at a
   (repeat' split at a)<;>simp only[Za,reduceCtorEq]at a<;>subst a<;>rfl
  rw[A];simp
theorem O6:∀(l:List Xx) (m:Nat),TJ m l=true->∀(i:Nat) (a:Xx),l[i]? =some a->∀k,k<m+i->k∈a.after
 |[],_,_,i,a,hi=>by simp at hi
 |o::os,m,h,i,a,hi=>by
  simp only[TJ,Zp]at h;intro k b;cases i with
  |zero=>simp at hi;subst hi;exact Pz _ _ h.1 k (by omega)
  |succ i=>exact O6 os (m+1) h.2 i a (by simpa using hi) k (by omega)
def Fx (P:Program)(nt:Nat)(ops:Array Oper)(ys:List Xx):Prop:=
 ∀(i:Nat) (xo:Xx),ys[i]? =some xo->∃o xo0,ops[i]? =some o/\Up P nt ops.toList o=some xo0/\xo.dst=xo0.dst/\xo.op=xo0.op/\xo.args=xo0.args/\xo.guard=xo0.guard/\(∀k∈xo0.after,k∈xo.after)/\
  (∀k∈xo.after,k∈xo0.after\/∃j∈xo0.after,∃p,ys[j]? =some p/\k∈p.after)
theorem C9 {P:Program}{E:Xb}(hE:Wu P E){F:Fence}(hF:V7 F){n lo base nt:Nat}{O:BS}{h:Array Oper}{g:List Xx}(a9:g.length=h.size)(C:Fx P nt h g)(fl:rV g)
  {m:Nat} (S:∀(i:Nat) (I:Xx),m<=i->g[i]? =some I->∀k,k<i->k∈I.after) {Q:Exit->Act->World->Prop} {w:World} {μ:Nat->Nat} {hh:HF} {s':St}
  (hk:∀a' w' μ',X4 w' O μ' (Xl s'.H)->Ww lo nt O w' μ' (Xl s'.H) a' s'.T->Wo O w μ hh w' μ' (Xl s'.H)->Q .normal a' w'):
  ∀(d k:Nat) (b:Array Bool) (a:Act) (w':World) (μ':Nat->Nat) (s:St),b.size=g.length->C7 g.length b<=d->m<=k->k<=g.length->(∀i,b.getD i false=true↔i<k)->Uf E base (g.drop k) s=some s'->
   X4 w' O μ' (Xl s.H)->Ww lo nt O w' μ' (Xl s.H) a s.T->Wo O w μ hh w' μ' (Xl s.H)->wpAnyIn F n P .any h Q d b a w':=by
 intro d;induction d with
 |zero=>
  intro k b a w' μ' s D N a6 a5 r c U u t;have x:=mD _ _ (Nat.le_zero.1 N);have A:k=g.length:=by
   rcases Yy k g.length with h1|h1
   ·have:=(r k).1 (x k h1);omega
   ·omega
  subst A;simp only[List.drop_length,Uf,Za]at c;subst c;exact pA 0 b a w' (by omega) (fun i V=>x i (by omega)) (hk a w' μ' U u t)
 |succ d ih=>
  intro k b a w' μ' s D N a6 a5 r c U u t;rcases Yy k g.length with hlt|J
  ·have R:g[k]? =some g[k]:=Zg hlt;rw[Z7 hlt]at c;generalize g[k]=I at R c;simp only[Uf]at c;cases v:WZ E base true I s with
   |none=>simp[v]at c
   |some q=>
   obtain⟨s2,rd,wr⟩:=q;simp only[v]at c;have K:b.getD k false=false:=by
    cases Y:b.getD k false with
    |false=>rfl
    |true=>have:=(r k).1 Y;omega
   refine⟨fun hr=> ?_,fun i V=> ?_⟩
   ·exfalso;obtain⟨o,p,L,G,_,_,_,_,g5,_⟩:=C k _ R;have z:k∈Region.ready .any h b:=by
     rw[Qz];refine⟨by omega,by rw[TS b k (by omega)];exact K,fun o' M e Z Y=> ?_⟩;rw[L]at M;cases M;have X:=(UR G).2.2.2.2;have :e.on∈p.after:=by rw[X];exact ZH.2 ⟨e,Yt.2 ⟨by simpa using Z,Y⟩,rfl⟩
     exact(r _).2 (fl.back k _ R _ (g5 _ this))
    rw[hr]at z;simp at z
   ·rw[Qz]at V;obtain⟨a8,B,a3⟩:=V;rw[TS b i (by omega)]at B;have l:g[i]? =some (g[i]'(by omega)):=Zg (by omega);generalize g[i]'(by omega)=xi at l;have a4:i=k:=by
     have J:k<=i:=by
      rcases Yy i k with h1|h1
      ·have:=(r i).2 h1;rw[this]at B;cases B
      ·exact h1
     rcases Nat.eq_or_lt_of_le J with e|h1
     ·exact e.symm
     ·exfalso;obtain⟨o,p,L,G,_,_,_,_,_,g6⟩:=C i xi l;have c5:=(UR G).2.2.2.2;have y:∀q∈p.after,b.getD q false=true:=by
       intro q W;rw[c5]at W;obtain⟨e,Z,rfl⟩:=ZH.1 W;obtain⟨a0,a1⟩:=Yt.1 Z;exact a3 o L e (by simpa using a0) a1
      rcases g6 k (S i xi (by omega) l k h1)with h2|⟨j,hj,q,W,hkq⟩
      ·have:=(r k).1 (y k h2);omega
      ·have h3:=(r j).1 (y j hj);have h4:=fl.back j q W k hkq;omega
    subst a4;rw[R]at l;cases l;obtain⟨o,p,L,G,g1,g2,g3,g4,g5,g6⟩:=C i I R;have c1:=(UR G).1;rw[aJ E base true I p _ g1 g2 g3 g4]at v;unfold wpOpIn;rw[L];simp only[];have:=bX E hE base true h.toList G (next:=wpAnyIn F n P .any h Q d (b.setIfInBounds i true)) (Q:=Q) v U u fun a2 w2 a7 k1 k2 k3=>by
     refine ih (i+1) _ a2 w2 a7 s2 (by simpa using D) ?_ (by omega) (by omega) (fun q=> ?_) c k1 k2 (t.trans k3)
     ·have:=r8 g.length b i hlt D K;omega
     ·rw[Rx b i q (by omega),r q];omega
    simp only[Array.toArray_toList]at this;rcases this with⟨t1,t2⟩|⟨t1,t2⟩
    ·rw[if_pos t1];exact ak hF (TY c1) t2
    ·rw[if_neg (by rw[t1];simp)];exact⟨fun f _=>hF.fn f,t2⟩
  ·have A:k=g.length:=by omega
   subst A;simp only[List.drop_length,Uf,Za]at c;subst c;exact pA _ b a w' (by omega) (fun i V=>(r i).2 (by omega)) (hk a w' μ' U u t)
theorem tV {P:Program}{E:Xb}(hE:Wu P E)(e2:P.follows .mixedOrders=true):OC P E:=by
 intro F n hF O lo base nt h7 u os xs f3 hm e1 A e0 s s1 s' hd b5 a w μ hI b3 Q y;obtain⟨a9,Z⟩:=rK os;generalize WD [] os=ys at a9 Z e1 A;obtain⟨S,Ft,R,d0,a7,d2⟩:=A4 E base xs s s1 hd;have b6:=B7 ys e1;have a5:∀(i:Nat) (g:Xx),xs[i]? =some g->ys[i]? =some g:=fun i g l=>by
  rw[A,ZC (Zd.1 l).1];exact l
 have e9:∀(i:Nat) (g:Xx),i<xs.length->ys[i]? =some g->xs[i]? =some g:=fun i g hl l=>by
  rw[A,ZC hl]at l;exact l
 have fl:rV xs:=⟨fun i g l=>b6.back i g (a5 i g l),fun i j N xj d l hj=>b6.uniq i j N xj d (a5 _ _ l) (a5 _ _ hj),fun i j N xj d l hj=>b6.order i j N xj d (a5 _ _ l) (a5 _ _ hj)⟩;have tc:=wX R d2;obtain⟨h4,d8⟩:=Td hm;have d7:ys.length=u.size:=by rw[a9,<-h4];simp
 have b1:xs.length<=ys.length:=by rw[A];simp
 have V:ys.drop xs.length=f3:=by rw[A];simp
 have c9:∀(i:Nat) (g:Xx),xs.length<=i->ys[i]? =some g->∀k,k<i->k∈g.after:=fun i g hl l k y=>by
  rw[A,ZI hl]at l;exact O6 f3 xs.length e0 (i-xs.length) g l k (by omega)
 have d9:Fx P nt u ys:=by
  intro i g l;obtain⟨z,h0,g1,g2,g3,g4,g5,g6⟩:=Z i g l;obtain⟨o,ho,hc⟩:=d8 i z h0;exact⟨o,z,by simpa using ho,hc,g1,g2,g3,g4,g5,g6⟩
 refine wpIn_region_any e2 ?_;have G:=C9 (n:=n) (lo:=lo) (base:=base) (O:=O) (Q:=Q) (w:=w) (μ:=μ) (hh:=Xl s.H) (s':=s') hE hF d7 d9 b6 c9 y;have f0:∀(m:Nat) (c:Array Bool) (a:Act) (w':World) (μ':Nat->Nat) (h:HF),c.size=ys.length->C7 ys.length c<=m->(∀i,c.getD i false=true->i<xs.length)->
   Part lo nt O xs S Ft (fun i=>c.getD i false=true) w' μ' h a->
   (∀(i:Nat) (N:Xx),xs[i]? =some N->c.getD i false=true->(∀k∈N.after,c.getD k false=true)/\Xk E N.op=false)->
   Wo O w μ (Xl s.H) w' μ' h->wpAnyIn F n P .any u Q m c a w':=by
  intro m;induction m with
  |zero=>
   intro c a w' μ' h a4 b7 a8 p a1 X;have J:=mD _ _ (Nat.le_zero.1 b7);have U:∀i,i<xs.length->c.getD i false=true:=fun i l=>J i (by omega)
   obtain⟨h1,h2⟩:=p.full R fl tc xs.length (Zh _) (fun i l=>⟨fun _=>l,fun _=>U i l⟩) fun k xk y K=>(a1 k xk K (U k y)).2
   subst h2;rw[a7]at h1 X;exact G 0 xs.length c a w' μ' s1 a4 b7 (Zh _) b1 (fun i=>⟨a8 i,U i⟩) (by rw[V];exact b5) (by have:=p.inv;rwa[a7]at this) h1 X
  |succ m ih=>
   intro c a w' μ' h a4 b7 a8 p a1 X;have h6:∀(i:Nat) (N:Xx),xs[i]? =some N->i<xs.length:=fun i N l=>(Zd.1 l).1
   have B:∀(i:Nat) (N:Xx),xs[i]? =some N->c.getD i false=true->∀k∈N.after,c.getD k false=true:=fun i N l I=>(a1 i N l I).1
   rcases k9 xs.length (fun i=>c.getD i false)with J|⟨i0,hi0,hu0,hmin⟩
   ·obtain⟨g1,g2⟩:=p.full R fl tc xs.length (Zh _) (fun i l=>⟨fun _=>l,fun _=>J i l⟩) fun k xk y K=>(a1 k xk K (J k y)).2
    subst g2;rw[a7]at g1 X;exact G _ xs.length c a w' μ' s1 a4 b7 (Zh _) b1 (fun i=>⟨a8 i,J i⟩) (by rw[V];exact b5) (by have:=p.inv;rwa[a7]at this) g1 X
   refine⟨fun hr=> ?_,fun i l=> ?_⟩
   ·exfalso;have K:xs[i0]? =some xs[i0]:=Zg hi0;obtain⟨o,z,ho,hc,_,_,_,_,g5,_⟩:=d9 i0 _ (a5 _ _ K);have c7:i0∈Region.ready .any u c:=by
     rw[Qz];refine⟨by omega,by rw[TS c i0 (by omega)];exact hu0,fun o' e3 e he hb=> ?_⟩;rw[ho]at e3;cases e3;have C:=(UR hc).2.2.2.2;have :e.on∈z.after:=by rw[C];exact ZH.2 ⟨e,Yt.2 ⟨by simpa using he,hb⟩,rfl⟩
     exact hmin _ (fl.back i0 _ K _ (g5 _ this))
    rw[hr]at c7;simp at c7
   ·rw[Qz]at l;obtain⟨h5,d5,g0⟩:=l;rw[TS c i (by omega)]at d5;have e8:i<ys.length:=by omega
    have a0:ys[i]? =some ys[i]:=Zg e8;generalize ys[i]=g at a0;obtain⟨o,z,ho,hc,g1,g2,g3,g4,g5,g6⟩:=d9 i g a0;obtain⟨c1,c2,c3,c4,c5⟩:=UR hc;have a3:¬c.getD i false=true:=by rw[d5];simp
    have b0:∀k∈z.after,c.getD k false=true:=by
     intro k y;rw[c5]at y;obtain⟨e,he,rfl⟩:=ZH.1 y;obtain⟨f8,f9⟩:=Yt.1 he;exact g0 o ho e (by simpa using f8) f9
    have C:∀k∈g.after,c.getD k false=true:=by
     intro k y;rcases g6 k y with h1|⟨j,hj,q,hq,hkq⟩
     ·exact b0 k h1
     ·exact B j q (e9 j q (a8 j (b0 j hj)) hq) (b0 j hj) k hkq
    have c0:i<xs.length:=by
     rcases Yy i xs.length with h1|h1
     ·exact h1
     ·have:=C i0 (c9 i g h1 a0 i0 (by omega));rw[this]at hu0;cases hu0
    have K:=e9 i g c0 a0;have c8:C7 ys.length (c.setIfInBounds i true)<=m:=by
     have:=r8 ys.length c i e8 a4 d5;omega
    have b8:∀k,(c.setIfInBounds i true).getD k false=true->k<xs.length:=fun k y=>by
     rcases(Rx c i k (by omega)).1 y with h1|rfl
     ·exact a8 k h1
     ·exact c0
    have b2:∀(a2:Act) (w2:World) (M:Nat->Nat) (h2:HF),Xk E g.op=false->Part lo nt O xs S Ft (fun k=>c.getD k false=true\/k=i) w2 M h2 a2->Wo O w' μ' h w2 M h2->
      wpAnyIn F n P .any u Q m (c.setIfInBounds i true) a2 w2:=by
     intro a2 w2 M h2 hh p2 g9;refine ih _ a2 w2 M h2 (by simpa using a4) c8 b8 (qH ?_ p2) ?_ (X.trans g9)
     ·funext k;exact propext (Rx c i k (by omega)).symm
     ·intro k xk L I;rcases(Rx c i k (by omega)).1 I with I|rfl
      ·exact⟨fun q hq=>(Rx c i q (by omega)).2 (.inl (B k xk L I q hq)),(a1 k xk L I).2⟩
      ·rw[K]at L;cases L;exact⟨fun q hq=>(Rx c k q (by omega)).2 (.inl (C q hq)),hh⟩
    unfold wpOpIn;rw[ho];simp only[];cases hh:Xk E g.op with
    |true=>
     obtain⟨g8,d4⟩:=R.heap i g K hh;obtain⟨f1,f2⟩:=p.full R fl tc i (by omega) (fun k y=>⟨fun I=>by
      by_cases e:k=i
      ·subst e;exact absurd I a3
      ·omega,fun y=>C k (d4 k y)⟩) fun k xk y L=>(a1 k xk L (C k (d4 k y))).2
     subst f2;have e6:=R.step i g K;rw[hh,aJ E base true g z _ g1 g2 g3 g4]at e6;have:=bX E hE base true u.toList hc (next:=wpAnyIn F n P .any u Q m (c.setIfInBounds i true)) (Q:=Q) e6 p.inv f1 fun a2 w2 M k1 k2 k3=>by
      rw[g8,a7]at k1 k2 k3;refine G m xs.length _ a2 w2 M s1 (by simpa using a4) c8 (Zh _) b1 (fun q=>⟨b8 q,fun hq=>(Rx c i q (by omega)).2 ?_⟩) (by rw[V];exact b5) k1 k2 (X.trans k3);by_cases e:q=i
      ·exact .inr e
      ·exact .inl (C q (d4 q (by omega)))
     simp only[Array.toArray_toList]at this;rcases this with⟨t1,t2⟩|⟨t1,t2⟩
     ·rw[if_pos t1];exact ak hF (TY c1) t2
     ·rw[if_neg (by rw[t1];simp)];exact⟨fun f _=>hF.fn f,t2⟩
    |false=>
     have b3:=p.iU R fl K a3 C B;have d3:∀t b,g.guard=some (t,b)->t∈g.tmps:=by
      intro t b hg;simp[Xx.tmps,hg]
     have f7:∀x∈g.args,∀t∈x.tmp,t∈g.tmps:=by
      intro x K t ht;simp only[Xx.tmps,ZV,Yh];exact .inl ⟨x,K,ht⟩
     have b9:PE nt g.dst=true:=by rw[g1,c3];exact c4
     have e4:o.dst=g.dst:=by rw[g1,c3]
     rcases ky (R.step i g K) hh with⟨s1,s2,s3,s4⟩|⟨s1,vs,r,s2,s3,s4,s5,s6⟩
     ·have hw:=fY b3 u.toList o.guard z.guard c2 false (by rw[<-g4,fZ _ _ _ d3];exact s1) o rfl;simp only[Array.toArray_toList]at hw;rw[if_neg (by rw[hw];simp),e4];refine⟨fun f _=>hF.fn f,b2 _ w' μ' h hh ?_ (Wo.refl _ _ _ _)⟩;exact p.add R fl tc K a3 B b9 (.XY []) undef [] [] (by rw[s2];rfl) s4 (by simp) ⟨[],rfl,.nil⟩ p.inv (Wo.refl _ _ _ _)
     ·have hw:=fY b3 u.toList o.guard z.guard c2 true (by rw[<-g4,fZ _ _ _ d3];exact s1) o rfl;simp only[Array.toArray_toList]at hw;rw[if_pos hw];refine ak hF (TY c1) ?_;have D:∀(k:Nat) (xk:Xx),k<i->xs[k]? =some xk->Xk E xk.op=false:=fun k xk y L=>R.inner L (by omega)
      have e5:∀id∈r.rd,id<(S i).H.length:=fun id W=>by
       obtain⟨b,hb⟩:=Cc E base g.op vs _ _ r s3 id W;simp only[Xl]at hb;exact(Zd.1 hb).1
      have c6:Wc E base g.op vs h (S i).H.length=some r:=
       rB E base g.op vs _ r s3 fun id W=>p.heap R fl tc K a3 C B D id (by rw[s5];exact W) (e5 id W)
      have d1:Xt (W8.eval (VK (S i).T g.tmps)) z.args=some vs:=by
       rw[<-g3,<-s2];exact fH _ fun x Y=>v8 _ _ x fun t ht=>f7 x Y t ht
      have e7:∀q∈r.wr,q.1<(S i).H.length/\∃b,h q.1=some b:=fun q hq=>by
       obtain⟨b,hb⟩:=ee E base g.op vs _ _ r s3 q hq;simp only[Xl]at hb;exact⟨(Zd.1 hb).1,ee E base g.op vs _ _ r c6 q hq⟩
      have d6:r.al≠[]->h (S i).H.length=none:=by
       intro f6;have f4:(S 0).H.length<=(S i).H.length:=R.RF 0 i (by omega) (by omega) fun k xk _ y Y=>D k xk y Y
       refine p.none _ f4 fun k y f5 hr=> ?_
       have g7:k≠i:=fun e=>a3 (e▸f5)
       rcases Nat.lt_or_gt_of_ne g7 with hlt'|d3
       ·have:=R.RF (k+1) i (by omega) (by omega) fun q xq _ hq Y=>D q xq hq Y
        omega
       ·have h1:(S (i+1)).H.length=(S i).H.length+r.al.length:=by rw[s4];simp only[];rw[QY,Zl,UT]
        have h2:=R.RF (i+1) k (by omega) (by omega) fun q xq _ hq Y=>R.inner Y (by omega)
        have h3:0<r.al.length:=List.length_pos_iff.2 f6;omega
      rw[<-g2]at c1;refine tP E hE base c1 b3 vs d1 r c6 d6 p.inv fun v w2 M k1 k2 k3=> ?_
      rw[e4];exact b2 _ w2 M _ hh (p.add R fl tc K a3 B b9 r.val v r.wr r.al s4 s6 e7 k1 k2 k3) k3
 obtain⟨gm,gi⟩:=Tr (w':={w with drawn:=w.drawn+1}) hI (Zh _) (fun _ _=>rfl) rfl rfl rfl;have b4:=b3.mono gm;have a6:∀i,¬((Array.replicate u.size false).getD i false=true):=by
  intro i l;rw[ZL]at l;by_cases h:i<u.size
  ·simp[h]at l
  ·simp[h]at l
 refine f0 u.size (Array.replicate u.size false) a _ μ (Xl s.H) (by simp[d7]) ?_ (fun i I=>absurd I (a6 i)) ?_ (fun i N _ I=>absurd I (a6 i)) gm
 ·rw[<-d7];exact ZD (List.length_filter_le _ _) (by simp)
 ·refine⟨b4.jV,b4.sz,fun i g _ I=>absurd I (a6 i),fun t _ d hd=>b4.slot t d (by rw[<-d0];exact hd),gi,fun i _ I=>absurd I (a6 i),fun id _ _=>by rw[d0],fun k _ I=>absurd I (a6 k),fun id W _=> ?_⟩;rw[d0]at W;simp only[Xl];exact Yv W
end Go.Ev
