/- Freezing: a reference into the call's own blocks as a pure value. -/
import Derived.Test.YtidginchkjhobaaGreatEvHeap
namespace Go.Ev
section
variable {P:Program}{O:BS}{w:World}{μ:Nat->Nat}{h:HF}{n:Nat}
theorem Wt.Al {L A:BS}(B:∀b,A b->L b){v:Value}{l:PL}(r:Wt w L v l):Wt w A v l:=by
 induction r with
 |bool b=>exact .bool b
 |int a n=>exact .int a n
 |XC=>exact .XC
 |str s=>exact .str s
 |RB v h=>exact .RB v h
 |fn f k D G p o=>exact .fn f k D G o
 |ref b g C e x p H o=>exact .ref b g C e (fun j d u t=>x j d u (B _ t)) p o
 |Xp b g I q E e x m z p H y o=>exact .Xp b g I q E e (fun i c j d F u t=>x i c j d F u (B _ t)) m z p o y
theorem Td {g c:Type}{f:g->Option c}{a:List g}{b:List c}(h:Xt f a=some b):a.length=b.length/\∀(i:Nat) (y:c),b[i]? =some y->∃x,a[i]? =some x/\f x=some y:=by
 have d:=Qo (R:=fun x y=>f x=some y) (fun _ _ e=>e) h;exact⟨d.length,fun i y j=>d.get i y j⟩
def h0:HF:=fun _=>none
def μ0:Nat->Nat:=fun _=>0
theorem RX (L:BS):Live L μ0 h0=L:=by
 funext b;simp[Live,h0]
theorem cZ (hI:X0 w O μ h)(L:BS)(hL:∀b,L b->Live O μ h b):∀(k:Nat) (l:DL) (Y:PL) (v:Value),XL w O μ h v l->XA k h l=some Y->(∀id∈W1 k h l,¬L (μ id))->Wt w L v Y:=by
 intro k;induction k with
 |zero=>
  intro l Y v hr n _;cases hr with
  |p v l hp=>simp only[XA,Za]at n;subst n;exact hp.Al hL
  |own=>simp[XA]at n
  |ptr=>simp[XA]at n
  |fn=>simp[XA]at n
  |mp=>simp[XA]at n
 |succ k ih=>
  intro l Y v hr n r;cases hr with
  |p v l hp=>simp only[XA,Za]at n;subst n;exact hp.Al hL
  |mp=>simp[XA]at n
  |fn f R cv hl hc=>
   simp only[XA]at n;cases E:Xt (XA k h) R with
   |none=>simp[E]at n
   |some cs=>
   simp only[E,Za]at n;subst n;obtain⟨D,q⟩:=Td E;refine .fn f cs cv (by omega) fun i d v hd hv=> ?_
   obtain⟨x,t,m⟩:=q i d hd;refine ih x d v (hc i x v t hv) m fun id a2=>r id ?_
   simp only[W1];exact Yo.2 ⟨x,Zn t,a2⟩
  |own id XX s P b g o Z H hv hl hs=>
   simp only[XA,H]at n;obtain⟨a,e⟩:=X3 n;simp only[Zs]at a;have G:=Zl a.1.1;have K:b.mp=false:=by simpa using a.1.2
   have a4:=WS a.2;cases E:Xt (Xt (XA k h)) ((b.ch.drop s).take P)with
   |none=>simp[E]at e
   |some es=>
   simp only[E,Za]at e;subst e;obtain⟨D,q⟩:=Td E;have a0:es.length=P:=by rw[<-D];simp;omega
   obtain⟨rfl,C,T,hC,hd⟩:=hs G.symm;obtain⟨C2,S,a3,U⟩:=(hI.QG id b H).cells K;rw[hC]at S;cases S;have F:¬L (μ id):=r id (by simp only[W1,H];exact Ze ..);have A:∀(i:Nat) (c:List PL),es[i]? =some c->∃x,b.ch[s+i]? =some x/\Xt (XA k h) x=some c/\i<P:=by
    intro i c Q;obtain⟨x,t,m⟩:=q i c Q;rw[Z7]at t;split at t
    ·rw[Ye]at t;exact⟨x,t,m,by assumption⟩
    ·simp at t
   rw[<-a0];refine .Xp (μ id) o b.sz Z es (fun i j=>C[o+i*b.sz+j]?.getD (.bool true)) (fun i c j d _ _=>F) (by omega) (fun i c Q=> ?_) (fun i c j d Q W=> ?_) (fun i c j d Q W=> ?_) (.inr rfl)
   ·obtain⟨x,t,m,_⟩:=A i c Q;rw[<-(Td m).1];exact(U _ x t).1
   all_goals
    obtain⟨x,t,m,V⟩:=A i c Q;obtain⟨y,hy,a1⟩:=(Td m).2 j d W;obtain⟨u,X,M⟩:=(U _ x t).2 j y hy;have ho:o=s*b.sz:=by
     rcases hd with⟨h1,_⟩|⟨h1,_⟩
     ·exact h1
     ·omega
    have J:C[o+i*b.sz+j]? =some u:=by rw[<-X,ho];congr 1;rw[ZG]
   ·simp only[World.cell?,hC,J];simp
   ·simp only[J,Option.getD_some];refine ih y d u M a1 fun N B=>r N ?_
    simp only[W1,H];refine Zc _ (Yo.2 ⟨x,?_,Yo.2 ⟨y,Zn hy,B⟩⟩);refine Zn (i:=i) ?_;rw[Z7,if_pos V,Ye];exact t
  |ptr id XX i s b g o H hv hs=>
   simp only[XA,H]at n;obtain⟨a,e⟩:=X3 n;simp only[Zs]at a;have G:=Zl a.1;have K:b.mp=false:=by simpa using a.2
   cases z:b.ch[i]? with
   |none=>simp[z]at e
   |some c=>
   simp only[z]at e;cases E:Xt (XA k h) (c.drop s)with
   |none=>simp[E]at e
   |some cs=>
   simp only[E,Za]at e;subst e;obtain⟨D,q⟩:=Td E;obtain⟨rfl,rfl⟩:=hs G.symm;have F:¬L (μ id):=r id (by simp only[W1,H,z];exact Ze ..);have I:=Of hI H K z s;refine .ref (μ id) (i*b.sz+s) cs (fun j=>(w.cell? ⟨μ id,i*b.sz+s+j,none⟩).getD (.bool true)) (fun _ _ _=>F) (fun j d W=> ?_) (fun j d W=> ?_);all_goals
    obtain⟨x,t,m⟩:=q j d W;obtain⟨u,X,M⟩:=I j x t
   ·simp only[X,Option.getD_some]
   ·simp only[X,Option.getD_some];refine ih x d u M m fun N B=>r N ?_
    simp only[W1,H,z];exact Zc _ (Yo.2 ⟨x,Zn t,B⟩)
theorem aw (z:X0 w O μ h)(L:BS)(A:∀b,L b->Live O μ h b)(d:DV)(p:PV)(v:Value)(D:XB w O μ h v d)(a:XY h d=some p)(e:∀id∈S7 h d,¬L (μ id)):XB w L μ0 h0 v (inj p):=by
 cases d with
 |XZ _=>simp[XY]at a
 |one l=>
  simp only[XY]at a;cases f:XA Ww h l with
  |none=>simp[f]at a
  |some m=>
  simp only[f,Za]at a;subst a;have:=cZ z L A _ l m v D f e;exact XL.p _ _ (by rw[RX];exact this)
 |agg E=>
  simp only[XY]at a;cases f:Xt (XA Ww h) E with
  |none=>simp[f]at a
  |some u=>
  simp only[f,Za]at a;subst a;obtain⟨G,rfl,B⟩:=D;refine⟨G,rfl,?_⟩;obtain⟨j,g⟩:=Td f;refine XF.VS (by rw[B.length,j];simp) fun i x y F n=> ?_
  rw[ZA]at n;cases r:u[i]? with
  |none=>simp[r]at n
  |some m=>
  simp only[r,Z4,Za]at n;subst n;obtain⟨c,C,o⟩:=g i m r;obtain⟨H,k,t⟩:=B.get i c C;rw[F]at k;cases k;have s:Wt w L x m:=by
   refine cZ z L A _ c m x t o fun id q=>e id ?_
   simp only[S7];exact Yo.2 ⟨c,Zn C,q⟩
  exact XL.p _ _ (by rw[RX];exact s)
end
end Go.Ev
namespace Go.Ev
open Go.RowKit
section
variable {P:Program}{O:BS}{w:World}{μ:Nat->Nat}{h:HF}{n:Nat}
def CC (P:Program)(f:Nat)(ps:List PV)(r:PV):Prop:=
 ∀(w:World) (L:BS) (vs:List Value),(∀b,L b->b<w.heap.size)->XF (fun v p=>XB w L μ0 h0 v (inj p)) vs ps->
  Calls P f vs.toArray w fun e w'=>∃v,e=.returned v/\XB w' L μ0 h0 v (inj r)/\Below w.heap.size w w'
theorem sV {e:World}{L d:BS}{v:Value}{l:PL}(c:l.scalar=true)(r:Wt w L v l):Wt e d v l:=by
 cases r with
 |bool b=>exact .bool b
 |int k a=>exact .int k a
 |XC=>exact .XC
 |str s=>exact .str s
 |RB v h=>exact .RB v h
 |fn=>simp[PL.scalar]at c
 |ref=>simp[PL.scalar]at c
 |Xp=>simp[PL.scalar]at c
theorem XL.tT {v:Value}{l:PL}(r:XL w O μ h v (.p l)):Wt w (Live O μ h) v l:=by cases r with |p _ _ a=>exact a
theorem lL {k:World}{d:BS}{c:Nat->Nat}{e:HF}{p:PV}{v:Value}(j:∀v l,Wt w (Live O μ h) v l->Wt k (Live d c e) v l)(r:VJ w O μ h v (lM p)):
  VJ k d c e v (lM p):=by
 cases p with
 |one l=>exact XL.p _ _ (j _ _ (XL.tT r))
 |agg m=>
  obtain⟨q,rfl,f⟩:=r;refine⟨q,rfl,?_⟩;refine XF.VS f.length fun i x y o b=> ?_
  obtain⟨t,a,n⟩:=f.get i y b;rw[o]at a;cases a;rw[ZA]at b;cases g:m[i]? with
  |none=>simp[g]at b
  |some l=>simp only[g,Z4,Za]at b;subst b;exact XL.p _ _ (j _ _ (XL.tT n))
 |XZ s=>exact r
theorem lJ {k:World}{e:BS}{c:Nat->Nat}{f:HF}{p:PV}{v:Value}(d:∀v l,Wt w (Live O μ h) v l->Wt k (Live e c f) v l)(r:XB w O μ h v (inj p)):XB k e c f v (inj p):=by
 cases p with
 |one l=>exact lL (p:=.one l) d r
 |agg m=>exact lL (p:=.agg m) d r
 |XZ s=>
  obtain⟨t,rfl,g⟩:=r;refine⟨t,rfl,XF.VS g.length fun i x y o b=> ?_⟩;obtain⟨u,a,n⟩:=g.get i y b;rw[o]at a;cases a;rw[ZA]at b;cases j:s[i]? with
  |none=>simp[j]at b
  |some q=>simp only[j,Z4,Za]at b;subst b;exact lL (p:=q) d n
theorem P0 {o:World}{g:BS}{d:Nat->Nat}{k:HF}{p:PV}{v:Value}(f:p.Ow=true)(r:VJ w O μ h v (lM p)):
  VJ o g d k v (lM p):=by
 cases p with
 |one l=>exact XL.p _ _ (sV f (XL.tT r))
 |agg j=>
  obtain⟨q,rfl,e⟩:=r;refine⟨q,rfl,XF.VS e.length fun i x y n b=> ?_⟩;obtain⟨t,a,m⟩:=e.get i y b;rw[n]at a;cases a;rw[ZA]at b;cases c:j[i]? with
  |none=>simp[c]at b
  |some l=>
   simp only[c,Z4,Za]at b;subst b;exact XL.p _ _ (sV (ZW.1 f l (Zn c)) (XL.tT m))
 |XZ s=>exact r
theorem rF {s:World}{g:BS}{e:Nat->Nat}{k:HF}{p:PV}{v:Value}(c:p.scalar=true)(r:XB w O μ h v (inj p)):XB s g e k v (inj p):=by
 cases p with
 |one l=>exact P0 (p:=.one l) c r
 |agg j=>exact P0 (p:=.agg j) c r
 |XZ o=>
  obtain⟨t,rfl,f⟩:=r;refine⟨t,rfl,XF.VS f.length fun i x y n b=> ?_⟩;obtain⟨u,a,m⟩:=f.get i y b;rw[n]at a;cases a;rw[ZA]at b;cases d:o[i]? with
  |none=>simp[d]at b
  |some q=>
   simp only[d,Z4,Za]at b;subst b;exact P0 (p:=q) (ZW.1 c q (Zn d)) m
def wX (h:HF)(ids:List Nat):HF:=fun x=>if x∈ids then(h x).map fun b=>{b with fz:=true}else h x
theorem iQ:∀(a:List Nat) (h g:HF),(∀x b,h x=some b->∃m,g x=some m/\{m with fz:=true}={b with fz:=true})->(∀id∈a,∃b,h id=some b)->
  TI g (a.filterMap (fun id=>(h id).map fun b=>(id,{b with fz:=true})))=fun x=>if x∈a then(h x).map fun b=>{b with fz:=true}else g x
 |[],h,g,_,_=>by funext x;simp[TI]
 |id::a,h,g,hg,hs=>by
  obtain⟨b,j⟩:=hs id (by simp);rw[List.filterMap_cons];simp only[j,Z4,TI];rw[iQ a h _ (fun x c k=> ?_) (fun i o=>hs i (by simp[o]))]
  ·funext x;by_cases f:x∈a
   ·simp[f]
   ·by_cases d:x=id
    ·subst d;simp[f,j]
    ·simp[f,d]
  ·by_cases d:x=id
   ·subst d;rw[j]at k;cases k;exact⟨{b with fz:=true},by simp,rfl⟩
   ·obtain⟨n,l,e⟩:=hg x c k;exact⟨n,by simp[d,l],e⟩
theorem ua {ids:List Nat}{x:Nat}{b:Xz}(d:h x=some b):∃a,wX h ids x=some a/\a.XX=b.XX/\a.sz=b.sz/\a.ch=b.ch/\a.mp=b.mp/\a.ty=b.ty/\(a.fz=false->b.fz=false/\x∉ids):=by
 unfold wX;by_cases c:x∈ids
 ·exact⟨{b with fz:=true},by simp[c,d],rfl,rfl,rfl,rfl,rfl,fun e=>by simp at e⟩
 ·exact⟨b,by simp[c,d],rfl,rfl,rfl,rfl,rfl,fun e=>⟨e,c⟩⟩
theorem OJ {ids:List Nat}{x:Nat}{a:Xz}(d:wX h ids x=some a):∃b,h x=some b/\a.XX=b.XX/\a.sz=b.sz/\a.ch=b.ch/\a.mp=b.mp/\a.ty=b.ty/\(a.fz=false->b.fz=false/\x∉ids):=by
 cases f:h x with
 |none=>unfold wX at d;simp[f]at d
 |some b=>
  obtain⟨c,e,rest⟩:=ua (ids:=ids) f;rw[d]at e;cases e;exact⟨b,rfl,rest⟩
theorem bU {w':World}(g:X0 w O μ h)(ids:List Nat)(i:w.heap.size<=w'.heap.size)(a:∀k,k<w.heap.size->w'.heap[k]? =w.heap[k]?)(o:w'.os=w.os)(q:w'.tape=w.tape)(p:w'.output=w.output):
  WD O w μ h w' μ (wX h ids)/\X0 w' O μ (wX h ids):=by
 have t:WD O w μ h w' μ (wX h ids):=by
  refine⟨o,q,p,⟨i,fun k f _=>a k f,fun k f=> ?_⟩,fun k f=>a k (g.lt k f),fun id b d=> ?_,fun _ _ _ _=>rfl⟩
  ·rcases f with f|⟨id,QG,hid,hf,m⟩
   ·exact .inl (.inl f)
   ·obtain⟨b,d,_,_,_,_,_,n⟩:=OJ hid;exact .inl (.inr ⟨id,b,d,(n hf).1,m⟩)
  ·obtain⟨j,e,e1,e2,r,l,s,_⟩:=ua (ids:=ids) d;exact⟨j,e,by omega,l,fun _=>⟨rfl,e2,fun C T u=>⟨C,by rw[a _ (g.lt_size d)];exact u,rfl⟩⟩⟩
 refine⟨t,⟨fun id j e=> ?_,fun B D x y z A m=> ?_,fun id j e=> ?_,fun k f=>Z2 (g.lt k f) i⟩⟩
 ·obtain⟨b,d,e1,e2,r,l,s,_⟩:=OJ e;have:=(g.QG id b d).mono t (a _ (g.lt_size d));unfold WJ at this⊢;rw[e1,e2,r,l,s];exact this
 ·obtain⟨b,d,_⟩:=OJ z;obtain⟨c,v,_⟩:=OJ A;exact g.inj B D b c d v m
 ·obtain⟨b,d,_⟩:=OJ e;exact g.Nt id b d
theorem Qr:∀(k:Nat) (l:DL),∀id∈W1 k h l,∃b,h id=some b
 |0,.p _,id,hid=>by simp[W1]at hid
 |0,.own ..,id,hid=>by simp[W1]at hid
 |0,.ptr ..,id,hid=>by simp[W1]at hid
 |0,.fn ..,id,hid=>by simp[W1]at hid
 |0,.mp _,id,hid=>by simp[W1]at hid
 |k+1,.p _,id,hid=>by simp[W1]at hid
 |k+1,.mp _,id,hid=>by simp[W1]at hid
 |k+1,.fn f caps,id,hid=>by
  simp only[W1]at hid;obtain⟨x,_,d⟩:=Yo.1 hid;exact Qr k x id d
 |k+1,.own i XX off len,id,hid=>by
  simp only[W1]at hid;cases a:h i with
  |none=>simp[a]at hid
  |some b=>
  simp only[a,Zj]at hid;rcases hid with rfl|hid
  ·exact⟨b,a⟩
  ·obtain⟨c,_,e⟩:=Yo.1 hid;obtain⟨x,_,d⟩:=Yo.1 e;exact Qr k x id d
 |k+1,.ptr i XX j off,id,hid=>by
  simp only[W1]at hid;cases a:h i with
  |none=>simp[a]at hid
  |some b=>
  simp only[a]at hid;cases e:b.ch[j]? with
  |none=>simp[e]at hid
  |some c=>
  simp only[e,Zj]at hid;rcases hid with rfl|hid
  ·exact⟨b,a⟩
  ·obtain⟨x,_,d⟩:=Yo.1 hid;exact Qr k x id d
theorem bS (d:DV):∀id∈S7 h d,∃b,h id=some b:=by
 intro id a;cases d with
 |one l=>exact Qr _ l id a
 |agg f=>obtain⟨c,_,e⟩:=Yo.1 a;exact Qr _ c id e
 |XZ _=>simp[S7]at a
theorem wI (E:Xa)(f:Nat)(hE:∀C r,E.pure f C=some r->CC P f C r)(S:List Value)(N:List DV)(D:XF (XB w O μ h) S N)(r:Vc)(q:Vk E h f N=some r)(A:X0 w O μ h):
  Calls P f S.toArray w fun e T=>∃v,e=.returned v/\XB T O μ (sE h n r) v r.val/\X0 T O μ (sE h n r)/\WD O w μ h T μ (sE h n r):=by
 unfold Vk at q;split at q
 ·cases hm:Xt (XY h) N with
  |none=>simp[hm]at q
  |some C=>
  simp only[hm]at q;cases t:E.pure f C with
  |none=>simp[t]at q
  |some pr=>
  simp only[t]at q;have V:=hE C pr t;generalize z:N.flatMap (S7 h)=ids at q;have o:∀id∈ids,∃b,h id=some b:=by
   intro id g;rw[<-z]at g;obtain⟨d,_,R⟩:=Yo.1 g;exact bS d id R
  let L:BS:=fun b=>Live O μ h b/\¬∃id∈ids,μ id=b
  have a0:∀b,L b->b<w.heap.size:=by
   intro b u;rcases u.1 with h1|⟨id,QG,g,_,rfl⟩
   ·exact A.lt b h1
   ·exact A.lt_size g
  have B:XF (fun v p=>XB w L μ0 h0 v (inj p)) S C:=by
   obtain⟨H,G⟩:=Td hm;refine XF.VS (by rw[D.length,H]) fun i v p hv t=> ?_
   obtain⟨d,R,Y⟩:=G i p t;obtain⟨v',K,k⟩:=D.get i d R;rw[hv]at K;cases K;refine aw A L (fun b u=>u.1) d p v k Y fun id g hL=>hL.2 ⟨id,?_,rfl⟩
   rw[<-z];exact Yo.2 ⟨d,Zn R,g⟩
  refine(V w L S a0 B).mono fun e T ⟨v,F,k,a⟩=>⟨v,F,?_⟩
  cases j:(ids.isEmpty||pr.scalar)with
  |true=>
   rw[j,cond_true,Za]at q;subst q;obtain⟨m,s⟩:=Tu A a.size a.block a.os a.tape a.output;refine⟨?_,s,m⟩;rw[Bool.or_eq_true]at j;rcases j with h1|h1
   ·have I:ids=[]:=by simpa using h1
    refine lJ (fun v l t=> ?_) k;rw[RX]at t;refine t.Al fun b u=>⟨u,?_⟩
    rw[I];simp
   ·exact rF h1 k
  |false=>
   rw[j,cond_false,Za]at q;subst q;have J:sE h n ⟨inj pr,[],ids.filterMap (fun id=>(h id).map fun b=>(id,{b with fz:=true})),ids⟩=wX h ids:=by
    show TI h _=_;rw[iQ ids h h (fun x b u=>⟨b,u,rfl⟩) o];rfl
   rw[J];obtain⟨m,s⟩:=bU A ids a.size a.block a.os a.tape a.output;refine⟨?_,s,m⟩;refine lJ (fun v l t=> ?_) k;rw[RX]at t;refine t.Al fun b u=> ?_
   rcases u with h1|⟨id,QG,g,hf,rfl⟩
   ·refine⟨.inl h1,fun⟨id,g,F⟩=> ?_⟩;obtain⟨c,Q⟩:=o id g;exact A.Nt id c Q (F▸h1)
   ·obtain⟨c,Q,_,_,_,_,_,Z⟩:=OJ g;obtain⟨W,X⟩:=Z hf;refine⟨.inr ⟨id,c,Q,W,rfl⟩,fun⟨M,y,F⟩=> ?_⟩;obtain⟨c2,U⟩:=o M y;have:=A.inj M id c2 c U Q F;subst this;exact X y
 ·simp at q
end
end Go.Ev
