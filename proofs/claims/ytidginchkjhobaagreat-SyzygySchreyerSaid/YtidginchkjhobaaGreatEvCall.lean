/- Freezing: a reference into the call's own blocks as a pure value. -/
import Derived.Test.YtidginchkjhobaaGreatEvHeap
namespace Go.Ev
section
variable {P:Program}{O:BS}{w:World}{μ:Nat->Nat}{h:HF}{n:Nat}
theorem Ws.tt {L A:BS}(B:∀b,A b->L b){v:Value}{l:PL}(r:Ws w L v l):Ws w A v l:=by
 induction r with
 |bool b=>exact .bool b
 |int a n=>exact .int a n
 |Xq=>exact .Xq
 |str s=>exact .str s
 |Qo v h=>exact .Qo v h
 |fn f k D G p o=>exact .fn f k D G o
 |ref b g C e x p H o=>exact .ref b g C e (fun j d u t=>x j d u (B _ t)) p o
 |Xn b g I q E e x m z p H y o=>exact .Xn b g I q E e (fun i c j d F u t=>x i c j d F u (B _ t)) m z p o y
theorem TG {g c:Type}{f:g->Option c}{a:List g}{b:List c}(h:Xv f a=some b):a.length=b.length/\∀(i:Nat) (y:c),b[i]? =some y->∃x,a[i]? =some x/\f x=some y:=by
 have d:=Pj (R:=fun x y=>f x=some y) (fun _ _ e=>e) h;exact⟨d.length,fun i y j=>d.get i y j⟩
def h0:HF:=fun _=>none
def μ0:Nat->Nat:=fun _=>0
theorem TP (L:BS):Live L μ0 h0=L:=by
 funext b;simp[Live,h0]
theorem eU (hI:X3 w O μ h)(L:BS)(hL:∀b,L b->Live O μ h b):∀(k:Nat) (l:DL) (Y:PL) (v:Value),XE w O μ h v l->XC k h l=some Y->(∀id∈Vk k h l,¬L (μ id))->Ws w L v Y:=by
 intro k;induction k with
 |zero=>
  intro l Y v hr n _;cases hr with
  |p v l hp=>simp only[XC,Za]at n;subst n;exact hp.tt hL
  |own=>simp[XC]at n
  |ptr=>simp[XC]at n
  |fn=>simp[XC]at n
  |mp=>simp[XC]at n
 |succ k ih=>
  intro l Y v hr n r;cases hr with
  |p v l hp=>simp only[XC,Za]at n;subst n;exact hp.tt hL
  |mp=>simp[XC]at n
  |fn f R cv hl hc=>
   simp only[XC]at n;cases E:Xv (XC k h) R with
   |none=>simp[E]at n
   |some cs=>
   simp only[E,Za]at n;subst n;obtain⟨D,q⟩:=TG E;refine .fn f cs cv (by omega) fun i d v hd hv=> ?_
   obtain⟨x,t,m⟩:=q i d hd;refine ih x d v (hc i x v t hv) m fun id a2=>r id ?_
   simp only[Vk];exact Ys.2 ⟨x,Zk t,a2⟩
  |own id XM s P b g o Z H hv hl hs=>
   simp only[XC,H]at n;obtain⟨a,e⟩:=Wg n;simp only[Zs]at a;have G:=Zl a.1.1;have K:b.mp=false:=by simpa using a.1.2
   have a4:=W7 a.2;cases E:Xv (Xv (XC k h)) ((b.ch.drop s).take P)with
   |none=>simp[E]at e
   |some es=>
   simp only[E,Za]at e;subst e;obtain⟨D,q⟩:=TG E;have a0:es.length=P:=by rw[<-D];simp;omega
   obtain⟨rfl,C,T,hC,hd⟩:=hs G.symm;obtain⟨C2,S,a3,U⟩:=(hI.RH id b H).cells K;rw[hC]at S;cases S;have F:¬L (μ id):=r id (by simp only[Vk,H];exact Zc ..);have A:∀(i:Nat) (c:N'),es[i]? =some c->∃x,b.ch[s+i]? =some x/\Xv (XC k h) x=some c/\i<P:=by
    intro i c Q;obtain⟨x,t,m⟩:=q i c Q;rw[Z8]at t;split at t
    ·rw[Yk]at t;exact⟨x,t,m,by assumption⟩
    ·simp at t
   rw[<-a0];refine .Xn (μ id) o b.sz Z es (fun i j=>C[o+i*b.sz+j]?.getD (.bool true)) (fun i c j d _ _=>F) (by omega) (fun i c Q=> ?_) (fun i c j d Q W=> ?_) (fun i c j d Q W=> ?_) (.inr rfl)
   ·obtain⟨x,t,m,_⟩:=A i c Q;rw[<-(TG m).1];exact(U _ x t).1
   all_goals
    obtain⟨x,t,m,V⟩:=A i c Q;obtain⟨y,hy,a1⟩:=(TG m).2 j d W;obtain⟨u,X,M⟩:=(U _ x t).2 j y hy;have ho:o=s*b.sz:=by
     rcases hd with⟨h1,_⟩|⟨h1,_⟩
     ·exact h1
     ·omega
    have J:C[o+i*b.sz+j]? =some u:=by rw[<-X,ho];congr 1;rw[ZG]
   ·simp only[World.cell?,hC,J];simp
   ·simp only[J,Option.getD_some];refine ih y d u M a1 fun N B=>r N ?_
    simp only[Vk,H];refine Zb _ (Ys.2 ⟨x,?_,Ys.2 ⟨y,Zk hy,B⟩⟩);refine Zk (i:=i) ?_;rw[Z8,if_pos V,Yk];exact t
  |ptr id XM i s b g o H hv hs=>
   simp only[XC,H]at n;obtain⟨a,e⟩:=Wg n;simp only[Zs]at a;have G:=Zl a.1;have K:b.mp=false:=by simpa using a.2
   cases z:b.ch[i]? with
   |none=>simp[z]at e
   |some c=>
   simp only[z]at e;cases E:Xv (XC k h) (c.drop s)with
   |none=>simp[E]at e
   |some cs=>
   simp only[E,Za]at e;subst e;obtain⟨D,q⟩:=TG E;obtain⟨rfl,rfl⟩:=hs G.symm;have F:¬L (μ id):=r id (by simp only[Vk,H,z];exact Zc ..);have I:=O7 hI H K z s;refine .ref (μ id) (i*b.sz+s) cs (fun j=>(w.cell? ⟨μ id,i*b.sz+s+j,none⟩).getD (.bool true)) (fun _ _ _=>F) (fun j d W=> ?_) (fun j d W=> ?_);all_goals
    obtain⟨x,t,m⟩:=q j d W;obtain⟨u,X,M⟩:=I j x t
   ·simp only[X,Option.getD_some]
   ·simp only[X,Option.getD_some];refine ih x d u M m fun N B=>r N ?_
    simp only[Vk,H,z];exact Zb _ (Ys.2 ⟨x,Zk t,B⟩)
theorem RY (z:X3 w O μ h)(L:BS)(A:∀b,L b->Live O μ h b)(d:DV)(p:PV)(v:Value)(D:XA w O μ h v d)(a:XT h d=some p)(e:∀id∈SK h d,¬L (μ id)):XA w L μ0 h0 v (inj p):=by
 cases d with
 |X9 _=>simp[XT]at a
 |one l=>
  simp only[XT]at a;cases f:XC WC h l with
  |none=>simp[f]at a
  |some m=>
  simp only[f,Za]at a;subst a;have:=eU z L A _ l m v D f e;exact XE.p _ _ (by rw[TP];exact this)
 |agg E=>
  simp only[XT]at a;cases f:Xv (XC WC h) E with
  |none=>simp[f]at a
  |some u=>
  simp only[f,Za]at a;subst a;obtain⟨G,rfl,B⟩:=D;refine⟨G,rfl,?_⟩;obtain⟨j,g⟩:=TG f;refine XB.Uj (by rw[B.length,j];simp) fun i x y F n=> ?_
  rw[ZD]at n;cases r:u[i]? with
  |none=>simp[r]at n
  |some m=>
  simp only[r,Z6,Za]at n;subst n;obtain⟨c,C,o⟩:=g i m r;obtain⟨H,k,t⟩:=B.get i c C;rw[F]at k;cases k;have s:Ws w L x m:=by
   refine eU z L A _ c m x t o fun id q=>e id ?_
   simp only[SK];exact Ys.2 ⟨c,Zk C,q⟩
  exact XE.p _ _ (by rw[TP];exact s)
end
end Go.Ev
namespace Go.Ev
open Go.RowKit
section
variable {P:Program}{O:BS}{w:World}{μ:Nat->Nat}{h:HF}{n:Nat}
def CC (P:Program)(f:Nat)(ps:List PV)(r:PV):Prop:=
 ∀(w:World) (L:BS) (vs:List Value),(∀b,L b->b<w.heap.size)->XB (fun v p=>XA w L μ0 h0 v (inj p)) vs ps->
  Calls P f vs.toArray w fun e w'=>∃v,e=.returned v/\XA w' L μ0 h0 v (inj r)/\Below w.heap.size w w'
theorem wq {e:World}{L d:BS}{v:Value}{l:PL}(c:l.scalar=true)(r:Ws w L v l):Ws e d v l:=by
 cases r with
 |bool b=>exact .bool b
 |int k a=>exact .int k a
 |Xq=>exact .Xq
 |str s=>exact .str s
 |Qo v h=>exact .Qo v h
 |fn=>simp[PL.scalar]at c
 |ref=>simp[PL.scalar]at c
 |Xn=>simp[PL.scalar]at c
theorem XE.OS {v:Value}{l:PL}(r:XE w O μ h v (.p l)):Ws w (Live O μ h) v l:=by cases r with |p _ _ a=>exact a
theorem oC {k:World}{d:BS}{c:Nat->Nat}{e:HF}{p:PV}{v:Value}(j:∀v l,Ws w (Live O μ h) v l->Ws k (Live d c e) v l)(r:V5 w O μ h v (oE p)):
  V5 k d c e v (oE p):=by
 cases p with
 |one l=>exact XE.p _ _ (j _ _ (XE.OS r))
 |agg m=>
  obtain⟨q,rfl,f⟩:=r;refine⟨q,rfl,?_⟩;refine XB.Uj f.length fun i x y o b=> ?_
  obtain⟨t,a,n⟩:=f.get i y b;rw[o]at a;cases a;rw[ZD]at b;cases g:m[i]? with
  |none=>simp[g]at b
  |some l=>simp only[g,Z6,Za]at b;subst b;exact XE.p _ _ (j _ _ (XE.OS n))
 |X9 s=>exact r
theorem dM {k:World}{e:BS}{c:Nat->Nat}{f:HF}{p:PV}{v:Value}(d:∀v l,Ws w (Live O μ h) v l->Ws k (Live e c f) v l)(r:XA w O μ h v (inj p)):XA k e c f v (inj p):=by
 cases p with
 |one l=>exact oC (p:=.one l) d r
 |agg m=>exact oC (p:=.agg m) d r
 |X9 s=>
  obtain⟨t,rfl,g⟩:=r;refine⟨t,rfl,XB.Uj g.length fun i x y o b=> ?_⟩;obtain⟨u,a,n⟩:=g.get i y b;rw[o]at a;cases a;rw[ZD]at b;cases j:s[i]? with
  |none=>simp[j]at b
  |some q=>simp only[j,Z6,Za]at b;subst b;exact oC (p:=q) d n
theorem OT {o:World}{g:BS}{d:Nat->Nat}{k:HF}{p:PV}{v:Value}(f:p.Nt=true)(r:V5 w O μ h v (oE p)):
  V5 o g d k v (oE p):=by
 cases p with
 |one l=>exact XE.p _ _ (wq f (XE.OS r))
 |agg j=>
  obtain⟨q,rfl,e⟩:=r;refine⟨q,rfl,XB.Uj e.length fun i x y n b=> ?_⟩;obtain⟨t,a,m⟩:=e.get i y b;rw[n]at a;cases a;rw[ZD]at b;cases c:j[i]? with
  |none=>simp[c]at b
  |some l=>
   simp only[c,Z6,Za]at b;subst b;exact XE.p _ _ (wq (ZI.1 f l (Zk c)) (XE.OS m))
 |X9 s=>exact r
theorem vh {s:World}{g:BS}{e:Nat->Nat}{k:HF}{p:PV}{v:Value}(c:p.scalar=true)(r:XA w O μ h v (inj p)):XA s g e k v (inj p):=by
 cases p with
 |one l=>exact OT (p:=.one l) c r
 |agg j=>exact OT (p:=.agg j) c r
 |X9 o=>
  obtain⟨t,rfl,f⟩:=r;refine⟨t,rfl,XB.Uj f.length fun i x y n b=> ?_⟩;obtain⟨u,a,m⟩:=f.get i y b;rw[n]at a;cases a;rw[ZD]at b;cases d:o[i]? with
  |none=>simp[d]at b
  |some q=>
   simp only[d,Z6,Za]at b;subst b;exact OT (p:=q) (ZI.1 c q (Zk d)) m
def AD (h:HF)(ids:P'):HF:=fun x=>if x∈ids then(h x).map fun b=>{b with fz:=true}else h x
theorem lj:∀(a:P') (h g:HF),(∀x b,h x=some b->∃m,g x=some m/\{m with fz:=true}={b with fz:=true})->(∀id∈a,∃b,h id=some b)->
  Sg g (a.filterMap (fun id=>(h id).map fun b=>(id,{b with fz:=true})))=fun x=>if x∈a then(h x).map fun b=>{b with fz:=true}else g x
 |[],h,g,_,_=>by funext x;simp[Sg]
 |id::a,h,g,hg,hs=>by
  obtain⟨b,j⟩:=hs id (by simp);rw[List.filterMap_cons];simp only[j,Z6,Sg];rw[lj a h _ (fun x c k=> ?_) (fun i o=>hs i (by simp[o]))]
  ·funext x;by_cases f:x∈a
   ·simp[f]
   ·by_cases d:x=id
    ·subst d;simp[f,j]
    ·simp[f,d]
  ·by_cases d:x=id
   ·subst d;rw[j]at k;cases k;exact⟨{b with fz:=true},by simp,rfl⟩
   ·obtain⟨n,l,e⟩:=hg x c k;exact⟨n,by simp[d,l],e⟩
theorem xA {ids:P'}{x:Nat}{b:Xx}(d:h x=some b):∃a,AD h ids x=some a/\a.XM=b.XM/\a.sz=b.sz/\a.ch=b.ch/\a.mp=b.mp/\a.ty=b.ty/\(a.fz=false->b.fz=false/\x∉ids):=by
 unfold AD;by_cases c:x∈ids
 ·exact⟨{b with fz:=true},by simp[c,d],rfl,rfl,rfl,rfl,rfl,fun e=>by simp at e⟩
 ·exact⟨b,by simp[c,d],rfl,rfl,rfl,rfl,rfl,fun e=>⟨e,c⟩⟩
theorem NI {ids:P'}{x:Nat}{a:Xx}(d:AD h ids x=some a):∃b,h x=some b/\a.XM=b.XM/\a.sz=b.sz/\a.ch=b.ch/\a.mp=b.mp/\a.ty=b.ty/\(a.fz=false->b.fz=false/\x∉ids):=by
 cases f:h x with
 |none=>unfold AD at d;simp[f]at d
 |some b=>
  obtain⟨c,e,rest⟩:=xA (ids:=ids) f;rw[d]at e;cases e;exact⟨b,rfl,rest⟩
theorem dP {w':World}(g:X3 w O μ h)(ids:P')(i:w.heap.size<=w'.heap.size)(a:∀k,k<w.heap.size->w'.heap[k]? =w.heap[k]?)(o:w'.os=w.os)(q:w'.tape=w.tape)(p:w'.output=w.output):
  Wy O w μ h w' μ (AD h ids)/\X3 w' O μ (AD h ids):=by
 have t:Wy O w μ h w' μ (AD h ids):=by
  refine⟨o,q,p,⟨i,fun k f _=>a k f,fun k f=> ?_⟩,fun k f=>a k (g.lt k f),fun id b d=> ?_,fun _ _ _ _=>rfl⟩
  ·rcases f with f|⟨id,RH,hid,hf,m⟩
   ·exact .inl (.inl f)
   ·obtain⟨b,d,_,_,_,_,_,n⟩:=NI hid;exact .inl (.inr ⟨id,b,d,(n hf).1,m⟩)
  ·obtain⟨j,e,e1,e2,r,l,s,_⟩:=xA (ids:=ids) d;exact⟨j,e,by omega,l,fun _=>⟨rfl,e2,fun C T u=>⟨C,by rw[a _ (g.lt_size d)];exact u,rfl⟩⟩⟩
 refine⟨t,⟨fun id j e=> ?_,fun B D x y z A m=> ?_,fun id j e=> ?_,fun k f=>ZZ (g.lt k f) i⟩⟩
 ·obtain⟨b,d,e1,e2,r,l,s,_⟩:=NI e;have:=(g.RH id b d).mono t (a _ (g.lt_size d));unfold Wr at this⊢;rw[e1,e2,r,l,s];exact this
 ·obtain⟨b,d,_⟩:=NI z;obtain⟨c,v,_⟩:=NI A;exact g.inj B D b c d v m
 ·obtain⟨b,d,_⟩:=NI e;exact g.S7 id b d
theorem Pp:∀(k:Nat) (l:DL),∀id∈Vk k h l,∃b,h id=some b
 |0,.p _,id,hid=>by simp[Vk]at hid
 |0,.own ..,id,hid=>by simp[Vk]at hid
 |0,.ptr ..,id,hid=>by simp[Vk]at hid
 |0,.fn ..,id,hid=>by simp[Vk]at hid
 |0,.mp _,id,hid=>by simp[Vk]at hid
 |k+1,.p _,id,hid=>by simp[Vk]at hid
 |k+1,.mp _,id,hid=>by simp[Vk]at hid
 |k+1,.fn f caps,id,hid=>by
  simp only[Vk]at hid;obtain⟨x,_,d⟩:=Ys.1 hid;exact Pp k x id d
 |k+1,.own i XM off len,id,hid=>by
  simp only[Vk]at hid;cases a:h i with
  |none=>simp[a]at hid
  |some b=>
  simp only[a,Zj]at hid;rcases hid with rfl|hid
  ·exact⟨b,a⟩
  ·obtain⟨c,_,e⟩:=Ys.1 hid;obtain⟨x,_,d⟩:=Ys.1 e;exact Pp k x id d
 |k+1,.ptr i XM j off,id,hid=>by
  simp only[Vk]at hid;cases a:h i with
  |none=>simp[a]at hid
  |some b=>
  simp only[a]at hid;cases e:b.ch[j]? with
  |none=>simp[e]at hid
  |some c=>
  simp only[e,Zj]at hid;rcases hid with rfl|hid
  ·exact⟨b,a⟩
  ·obtain⟨x,_,d⟩:=Ys.1 hid;exact Pp k x id d
theorem Po (d:DV):∀id∈SK h d,∃b,h id=some b:=by
 intro id a;cases d with
 |one l=>exact Pp _ l id a
 |agg f=>obtain⟨c,_,e⟩:=Ys.1 a;exact Pp _ c id e
 |X9 _=>simp[SK]at a
def CH (P:Program)(f:Nat)(args:X')(H:V')(d:DV)(H':V'):Prop:=
 ∀(w:World) (O:BS) (μ:Nat->Nat) (vs:List Value),X3 w O μ (Xj H)->XB (XA w O μ (Xj H)) vs args->
  Calls P f vs.toArray w fun e w'=>∃v μ',e=.returned v/\XA w' O μ' (Xj H') v d/\X3 w' O μ' (Xj H')/\Wy O w μ (Xj H) w' μ' (Xj H')
theorem Sf:∀{cs:Y'},Wc cs=true->∀d∈cs,∃l,d=.p l
 |[],_,d,h=>by cases h
 | .p l::cs,h,d,hd=>by
   rcases Zj.1 hd with rfl|hd
   ·exact⟨l,rfl⟩
   ·exact Sf (cs:=cs) h d hd
 | .own ..::_,h,_,_=>by simp[Wc]at h
 | .ptr ..::_,h,_,_=>by simp[Wc]at h
 | .fn ..::_,h,_,_=>by simp[Wc]at h
 | .mp _::_,h,_,_=>by simp[Wc]at h
theorem lV {m:World}{i:BS}{f:Nat->Nat}{j:HF}{d:DV}(k:SP d=true){v:Value}(o:∀v l,Ws w (Live O μ h) v l->Ws m (Live i f j) v l)(r:XA w O μ h v d):XA m i f j v d:=by
 have b:∀(a:Y') (e:List Value),Wc a=true->XB (XE w O μ h) e a->XB (XE m i f j) e a:=by
  intro a;induction a with
  |nil=>intro e _ g;cases g;exact .nil
  |cons c a t=>
   intro e n g;cases g with
   |cons q s=>
    cases c with
    |p l=>exact .cons (XE.p _ _ (o _ _ (XE.OS q))) (t _ n s)
    |_=>simp[Wc]at n
 cases d with
 |one l=>cases l with
  |p l=>exact XE.p _ _ (o _ _ (XE.OS r))
  |_=>simp[SP]at k
 |agg a=>
  obtain⟨e,rfl,g⟩:=r;exact⟨e,rfl,b a e k g⟩
 |X9 _=>simp[SP]at k
theorem Nx {i:World}{c:BS}{a:Nat->Nat}{e:HF}(f:∀v l,Ws w (Live O μ h) v l->Ws i (Live c a e) v l):∀{b:X'} {g:List Value},b.all SP=true->XB (XA w O μ h) g b->XB (XA i c a e) g b
 |[],_,_,ha=>by cases ha;exact .nil
 |d::b,_,hd,ha=>by
  rw[List.all_cons,Zs]at hd;cases ha with
  |cons j k=>exact .cons (lV hd.1 f j) (Nx f hd.2 k)
theorem N9 {y:BS}{j:Nat->Nat}{r:HF}{id XM u:Nat}{b:Xx}(s:∀v l,Ws w (Live O μ h) v l->Ws w (Live y j r) v l)(B:h id=some b)(k:r 0=some b)(p:j 0=μ id):∀{a:X'} {C:List Value},TV a=some (id,XM,u)->RO a=true->XB (XA w O μ h) C a->XB (XA w y j r) C (RD a)
 |[],_,ho,_,_=>by simp[TV]at ho
 |d::a,_,ho,hx,ha=>by
  cases ha with
  |cons z A=>
   unfold TV at ho;split at ho
   ·rename_i c;cases c
   ·rename_i t i f x c;cases c;simp only[Za,Zp]at ho;obtain⟨rfl,rfl,rfl⟩:=ho;simp only[RO]at hx;simp only[RD];refine .cons ?_ (Nx s hx A);have D:XE w O μ h _ (.own t i 0 f):=z;cases D with
    |own _ _ _ _ H g o q m G E F=>
     rw[B]at m;cases m;exact XE.own 0 i 0 f b g o q k G E fun e=>by rw[p];exact F e
   ·rename_i v x n c;cases c;have e1:RD (d::a)=d::RD a:=RD.eq_3 d a n;have e2:RO (d::a)=(SP d&&RO a):=RO.eq_3 d a n;rw[e2,Zs]at hx;rw[e1];exact .cons (lV hx.1 s z) (N9 s B k p ho hx.2 A)
theorem yd {E:Xa}{f:Nat}{e:X'}{r:Va}(a:WI E h f e=some r):∃as H d j,E.heap f as H=some (d,j):=by
 unfold WI at a;split at a
 ·cases c:e.all SP with
  |false=>simp[c]at a
  |true=>
   simp only[c,cond_true]at a;split at a
   ·rename_i g;exact⟨_,_,_,_,g⟩
   ·simp at a
 ·cases c:RO e with
  |false=>simp[c]at a
  |true=>
   simp only[c,cond_true]at a;split at a
   ·rename_i b k;cases i:(Nat.beq b.XM _&& !b.mp&& !b.fz&&b.ch.all Wc)with
    |false=>rw[i]at a;simp at a
    |true=>
     rw[i,cond_true]at a;split at a
     ·rename_i g;exact⟨_,_,_,_,g⟩
     ·simp at a
   ·simp at a
theorem Ao (E:Xa)(f:Nat)(hE:∀as H d H',E.heap f as H=some (d,H')->CH P f as H d H')(vs:List Value)(ds:X')(b1:XB (XA w O μ h) vs ds)(r:Va)(q:WI E h f ds=some r)(A:X3 w O μ h):
  Calls P f vs.toArray w fun e Z=>∃v,e=.returned v/\XA Z O μ (pL h n r) v r.val/\X3 Z O μ (pL h n r)/\Wy O w μ h Z μ (pL h n r):=by
 have a2:∀x,Live O μ h x->x<w.heap.size:=by
  intro x s;rcases s with s|⟨i,a,o,_,rfl⟩
  ·exact A.lt x s
  ·exact A.lt_size o
 unfold WI at q;split at q
 ·cases hc:ds.all SP with
  |false=>simp[hc]at q
  |true=>
  simp only[hc,cond_true]at q;split at q
  ·rename_i d G hh;cases hf:XT (Xj G) d with
   |none=>simp[hf]at q
   |some p=>
   simp only[hf,Za]at q;subst q;have a7:=hE _ _ _ _ hh;have a4:Xj ([]:V')=h0:=by funext x;rfl
   have m:Live (Live O μ h) μ0 (Xj [])=Live O μ h:=by rw[a4];exact TP _
   have a6:X3 w (Live O μ h) μ0 (Xj []):=by
    rw[a4];exact⟨(fun _ _ e=>by cases e),(fun _ _ _ _ e=>by cases e),(fun _ _ e=>by cases e),a2⟩
   refine(a7 w (Live O μ h) μ0 vs a6 (Nx (fun v l X=>by rw[m];exact X) hc b1)).mono fun e Z ⟨v,a0,he,N,F,D⟩=>⟨v,he,?_⟩
   have t:∀k,k<w.heap.size->Z.heap[k]? =w.heap[k]? :=fun k g=>by
    by_cases hl:Live O μ h k
    ·exact D.N1 k hl
    ·exact D.keeps.VM k g (by rw[m];exact hl)
   obtain⟨z,L⟩:=Te A D.keeps.size t D.os D.tape D.output;refine⟨?_,L,z⟩;have J:=RY F (Live O μ h) (fun b I=>.inl I) d p v N hf fun id W=>by
    obtain⟨b,I⟩:=Po d id W;exact F.S7 id b I
   exact dM (fun v l X=>by rw[TP]at X;exact X) J
  ·simp at q
 ·rename_i id XM c7 ho;cases s:RO ds with
  |false=>simp[s]at q
  |true=>
  simp only[s,cond_true]at q;split at q
  ·rename_i b I;cases hd:(Nat.beq b.XM XM&& !b.mp&& !b.fz&&b.ch.all Wc)with
   |false=>rw[hd]at q;simp at q
   |true=>
   rw[hd,cond_true]at q;split at q
   ·rename_i d U G hh;cases hf:XT (Xj (U::G)) d with
    |none=>simp[hf]at q
    |some p=>
    simp only[hf]at q;cases u:(Nat.beq U.XM b.XM&& !U.fz&& !U.mp&&U.ch.all Wc&& !((SK (Xj (U::G)) d).contains 0))with
    |false=>rw[u]at q;simp at q
    |true=>
    rw[u,cond_true,Za]at q;subst q;simp only[Zs,YB]at hd u;obtain⟨⟨⟨_,b6⟩,b3⟩,a9⟩:=hd;obtain⟨⟨⟨⟨b0,b4⟩,a3⟩,Y⟩,b7⟩:=u;have b9:U.XM=b.XM:=Zl b0;have a7:=hE _ _ _ _ hh;have W:Live O μ h (μ id):=.inr ⟨id,b,I,b3,rfl⟩;let O1:BS:=fun x=>Live O μ h x/\x≠μ id
    let a1:Nat->Nat:=fun _=>μ id
    have a5:∀i a,Xj [b] i=some a->i=0/\a=b:=fun i a e=>by
     cases i with
     |zero=>exact⟨rfl,by have :some b=some a:=e;cases this;rfl⟩
     |succ i=>have :(none:Option Xx)=some a:=e;cases this
    have m:Live O1 a1 (Xj [b])=Live O μ h:=by
     funext x;apply propext;constructor
     ·rintro (s|⟨i,a,o,_,he⟩)
      ·exact s.1
      ·rw[<-he];exact W
     ·intro s;by_cases e:x=μ id
      ·exact .inr ⟨0,b,rfl,b3,e.symm⟩
      ·exact .inl ⟨s,e⟩
    have Q:∀v l,Ws w (Live O μ h) v l->Ws w (Live O1 a1 (Xj [b])) v l:=fun v l X=>by rw[m];exact X
    have a6:X3 w O1 a1 (Xj [b]):=by
     refine⟨fun i a e=> ?_,fun i i' x y e1 e2 _=> ?_,fun i a e s=>s.2 rfl,fun x s=>a2 x s.1⟩
     ·obtain⟨rfl,rfl⟩:=a5 i a e;have g:=A.RH id a I;unfold Wr at g⊢;rw[b6]at g⊢;simp only[Zy,if_false]at g⊢;obtain⟨C,c1,c2,c3⟩:=g;refine⟨C,c1,c2,fun j c hj=>⟨(c3 j c hj).1,fun k dl g=> ?_⟩⟩;obtain⟨v,v1,v2⟩:=(c3 j c hj).2 k dl g;exact⟨v,v1,by
       obtain⟨l,rfl⟩:=Sf (ZI.1 a9 c (Zk hj)) dl (Zk g);exact XE.p _ _ (Q _ _ (XE.OS v2))⟩
     ·rw[(a5 i x e1).1,(a5 i' y e2).1]
    refine(a7 w O1 a1 vs a6 (N9 Q I rfl rfl ho s b1)).mono fun e Z ⟨v,a0,he,N,F,D⟩=>⟨v,he,?_⟩
    obtain⟨B,c4,_,_,b5⟩:=D.ids 0 b rfl;have :B=U:=by have :some U=some B:=c4;cases this;rfl
    subst this;obtain⟨m1,m2,m3⟩:=b5 b9;have c0:a0 0=μ id:=m1;have V:∀i a,(fun x=>if x=id then some B else h x) i=some a->(i=id/\a=B)\/(i≠id/\h i=some a):=fun i a e=>by
     by_cases o:i=id
     ·left;refine⟨o,?_⟩;simp only[o,if_true,Za]at e;exact e.symm
     ·right;refine⟨o,?_⟩;simp only[o,if_false]at e;exact e
    have b8:pL h n ⟨inj p,[],[(id,B)],[id]⟩=fun x=>if x=id then some B else h x:=rfl
    rw[b8];have K:∀x,Live O μ (fun x=>if x=id then some B else h x) x->O1 x\/x=a0 0:=by
     rintro x (s|⟨i,a,o,c5,rfl⟩)
     ·exact .inl ⟨.inl s,fun e=>A.S7 id b I (e▸s)⟩
     ·rcases V i a o with⟨rfl,rfl⟩|⟨M,o⟩
      ·exact .inr c0.symm
      ·exact .inl ⟨.inr ⟨i,a,o,c5,rfl⟩,fun e=>M (A.inj i id a b o I e)⟩
    have R:∀x,Live O μ (fun x=>if x=id then some B else h x) x->Live O1 a0 (Xj (B::G)) x:=fun x s=>by
     rcases K x s with J|J
     ·exact .inl J
     ·exact .inr ⟨0,B,rfl,b4,J.symm⟩
    have t:∀k,k<w.heap.size->k≠μ id->Z.heap[k]? =w.heap[k]? :=fun k g M=>by
     by_cases hl:Live O μ h k
     ·exact D.N1 k ⟨hl,M⟩
     ·exact D.keeps.VM k g (by rw[m];exact hl)
    have z:Wy O w μ h Z μ (fun x=>if x=id then some B else h x):=by
     refine⟨D.os,D.tape,D.output,⟨D.keeps.size,fun k g hn=>t k g fun e=>hn (e▸W),fun k g=> ?_⟩,fun k g=>t k (A.lt k g) fun e=>A.S7 id b I (e▸g),fun i S o=> ?_,fun _ _ _ _=>rfl⟩
     ·have:=D.keeps.live k (R k g)
      rwa[m]at this
     ·by_cases e:i=id
      ·subst e;rw[I]at o;cases o;refine⟨B,by simp,by omega,by rw[a3,b6],fun _=>⟨rfl,m2,fun C T hC=> ?_⟩⟩;exact m3 C T hC
      ·exact⟨S,by simp[e,o],Ze _,rfl,fun _=>⟨rfl,rfl,fun C T hC=>⟨C,by rw[t _ (A.lt_size o) fun e2=>e (A.inj i id S b o I e2)];exact hC,rfl⟩⟩⟩
    have L:X3 Z O μ (fun x=>if x=id then some B else h x):=by
     refine⟨fun i S o=> ?_,fun i1 i2 x y s hy he=> ?_,fun i S o=> ?_,fun k g=>ZZ (A.lt k g) D.keeps.size⟩
     ·rcases V i S o with⟨rfl,rfl⟩|⟨M,a8⟩
      ·have g:=F.RH 0 S rfl;unfold Wr at g⊢;rw[a3]at g⊢;simp only[Zy,if_false]at g⊢;obtain⟨C,c1,c2,c3⟩:=g;rw[c0]at c1;refine⟨C,c1,c2,fun j c hj=>⟨(c3 j c hj).1,fun k dl g=> ?_⟩⟩;obtain⟨v,v1,v2⟩:=(c3 j c hj).2 k dl g;exact⟨v,v1,by
        obtain⟨l,rfl⟩:=Sf (ZI.1 Y c (Zk hj)) dl (Zk g);exact XE.p _ _ ((XE.OS v2).tt R)⟩
      ·exact(A.RH i S a8).mono z (t _ (A.lt_size a8) fun e2=>M (A.inj i id S b a8 I e2))
     ·have ex:∀i a,(fun x=>if x=id then some B else h x) i=some a->∃c,h i=some c:=fun i a e=>by
       rcases V i a e with⟨rfl,_⟩|⟨_,e⟩
       ·exact⟨b,I⟩
       ·exact⟨a,e⟩
      obtain⟨c,hc⟩:=ex i1 x s;obtain⟨c',c6⟩:=ex i2 y hy;exact A.inj i1 i2 c c' hc c6 he
     ·rcases V i S o with⟨rfl,_⟩|⟨_,e⟩
      ·exact A.S7 i b I
      ·exact A.S7 i S e
    refine⟨?_,L,z⟩;have J:=RY F (Live O μ (fun x=>if x=id then some B else h x)) R d p v N hf fun i o hl=>by
     obtain⟨c,hc⟩:=Po d i o;rcases K _ hl with J|J
     ·exact F.S7 i c hc J
     ·have:=F.inj i 0 c B hc rfl J;subst this;rw[List.contains_iff_mem.2 o]at b7;cases b7
    exact dM (fun v l X=>by rw[TP]at X;exact X) J
   ·simp at q
  ·simp at q
theorem pk {w':World}(d:X3 w O μ h)(t:h n=none)(b:Xx){g:Nat}(A:w.heap.size<=g)(q:w.heap.size<=w'.heap.size)(c:∀k,k<w.heap.size->w'.heap[k]? =w.heap[k]?)(o:w'.os=w.os)(r:w'.tape=w.tape)(p:w'.output=w.output):
  Wy O w μ h w' (fun id=>if id=n then g else μ id) (fun x=>if x=n then some b else h x)/\
  (Wr w' O (fun id=>if id=n then g else μ id) (fun x=>if x=n then some b else h x) n b->X3 w' O (fun id=>if id=n then g else μ id) (fun x=>if x=n then some b else h x)):=by
 have s:Wy O w μ h w' (fun id=>if id=n then g else μ id) (fun x=>if x=n then some b else h x):=by
  refine⟨o,r,p,⟨q,fun k f _=>c k f,fun k f=> ?_⟩,fun k f=>c k (d.lt k f),fun id x a=> ?_,fun id x a _=> ?_⟩
  ·rcases f with f|⟨id,RH,hid,hf,j⟩
   ·exact .inl (.inl f)
   ·by_cases e:id=n
    ·subst e;simp at j;right;omega
    ·simp only[e,if_false]at hid j;exact .inl (.inr ⟨id,RH,hid,hf,j⟩)
  ·have e:id≠n:=fun e=>by rw[e,t]at a;cases a
   refine⟨x,by simp[e,a],Ze _,rfl,fun _=>⟨by simp[e],rfl,fun C T u=>⟨C,?_,rfl⟩⟩⟩;rw[c _ (d.lt_size a)];exact u
  ·have e:id≠n:=fun e=>by rw[e,t]at a;cases a
   simp[e]
 refine⟨s,fun v=>⟨fun id x a=> ?_,fun id m x z a i j=> ?_,fun id x a=> ?_,fun k f=> ?_⟩⟩
 ·by_cases e:id=n
  ·subst e;simp at a;subst a;exact v
  ·simp only[e,if_false]at a;exact(d.RH id x a).mono s (by simp only[e,if_false];exact c _ (d.lt_size a))
 ·by_cases e:id=n<;>by_cases l:m=n
  ·rw[e,l]
  ·simp only[l,if_false]at i;have:=d.lt_size i;simp only[e,l,if_true,if_false]at j;omega
  ·simp only[e,if_false]at a;have:=d.lt_size a;simp only[e,l,if_true,if_false]at j;omega
  ·simp only[e,l,if_false]at a i j;exact d.inj id m x z a i j
 ·by_cases e:id=n
  ·simp only[e,if_true];intro y;have:=d.lt _ y;omega
  ·simp only[e,if_false]at a⊢;exact d.S7 id x a
 ·have:=d.lt k f;omega
theorem zV {f:Nat}{ds:X'}{H:V'}{id XM c8 i E U:Nat}{b W q:Xx}{G:V'}(d5:CH P f (RD ds) [b] (.one (.own (i+1) E 0 U)) (W::G))(ho:TV ds=some (id,XM,c8))(n:RO ds=true)(b1:H[id]? =some b)(c4:b.mp=false)(b6:b.fz=false)(a7:b.ch.all Wc=true)
  (hG:G[i]? =some q) (c7:W.XM=b.XM) (b7:W.fz=false) (Z:W.mp=false) (S:W.ch.all Wc=true) (c9:q.fz=false) (e0:q.mp=false) (a9:q.ch.all Wc=true):CH P f ds H (.one (.own H.length E 0 U)) (H.set id W++[q]):=by
 intro w O μ vs u d6;have M:Xj H id=some b:=b1;have e4:id<H.length:=(Zf.1 b1).1;have b0:∀x,Live O μ (Xj H) x->x<w.heap.size:=by
  intro x n;rcases n with n|⟨i,a,d,_,rfl⟩
  ·exact u.lt x n
  ·exact u.lt_size d
 have b8:Live O μ (Xj H) (μ id):=.inr ⟨id,b,M,b6,rfl⟩;let O1:BS:=fun x=>Live O μ (Xj H) x/\x≠μ id
 let V:Nat->Nat:=fun _=>μ id
 have a1:∀i a,Xj [b] i=some a->i=0/\a=b:=fun i a e=>by
  cases i with
  |zero=>exact⟨rfl,by have :some b=some a:=e;cases this;rfl⟩
  |succ i=>have :(none:Option Xx)=some a:=e;cases this
 have s:Live O1 V (Xj [b])=Live O μ (Xj H):=by
  funext x;apply propext;constructor
  ·rintro (n|⟨i,a,d,_,X⟩)
   ·exact n.1
   ·rw[<-X];exact b8
  ·intro n;by_cases e:x=μ id
   ·exact .inr ⟨0,b,rfl,b6,e.symm⟩
   ·exact .inl ⟨n,e⟩
 have K:∀v l,Ws w (Live O μ (Xj H)) v l->Ws w (Live O1 V (Xj [b])) v l:=fun v l hp=>by rw[s];exact hp
 have d1:X3 w O1 V (Xj [b]):=by
  refine⟨fun i a e=> ?_,fun i i' x y e1 e2 _=> ?_,fun i a e n=>n.2 rfl,fun x n=>b0 x n.1⟩
  ·obtain⟨rfl,rfl⟩:=a1 i a e;have m:=u.RH id a M;unfold Wr at m⊢;rw[c4]at m⊢;simp only[Zy,if_false]at m⊢;obtain⟨C,c1,c2,c3⟩:=m;refine⟨C,c1,c2,fun j c R=>⟨(c3 j c R).1,fun k dl m=> ?_⟩⟩;obtain⟨v,v1,v2⟩:=(c3 j c R).2 k dl m;exact⟨v,v1,by
    obtain⟨l,rfl⟩:=Sf (ZI.1 a7 c (Zk R)) dl (Zk m);exact XE.p _ _ (K _ _ (XE.OS v2))⟩
  ·rw[(a1 i x e1).1,(a1 i' y e2).1]
 refine(d5 w O1 V vs d1 (N9 K M rfl rfl ho n d6)).mono fun e w' ⟨v,t,X,c6,a2,N⟩=> ?_
 obtain⟨r,d2,_,_,b9⟩:=N.ids 0 b rfl;have :r=W:=by have :some W=some r:=d2;cases this;rfl
 subst this;obtain⟨m1,m2,m3⟩:=b9 c7;have a8:t 0=μ id:=m1;have F:Xj (r::G) (i+1)=some q:=hG;have hg:w.heap.size<=t (i+1):=by
  rcases N.keeps.live (t (i+1)) (.inr ⟨i+1,q,F,c9,rfl⟩)with n|n
  ·rw[s]at n;exfalso;by_cases e:t (i+1)=μ id
   ·have:=a2.inj (i+1) 0 q r F rfl (e.trans a8.symm);omega
   ·exact a2.S7 (i+1) q F ⟨n,e⟩
  ·exact n
 generalize a4:t (i+1)=g at hg;have c5:H.length≠id:=by omega
 have hH:Xj (H.set id r++[q])=fun y=>if y=H.length then some q else if y=id then some r else Xj H y:=by
  funext y;simp only[Xj,List.getElem?_append,ZL];by_cases e:y=H.length
  ·subst e;simp
  ·rw[if_neg e];by_cases Y:y<H.length
   ·rw[if_pos Y];by_cases e2:y=id
    ·subst e2;rw[if_pos rfl,Yv Y]
    ·rw[if_neg e2,ZK (fun h=>e2 h.symm)]
   ·rw[if_neg Y,if_neg (by omega),Yd (by simp;omega),Yd (by omega)]
 rw[hH];have a5:∀i a,(fun y=>if y=H.length then some q else if y=id then some r else Xj H y) i=some a->(i=H.length/\a=q)\/(i≠H.length/\i=id/\a=r)\/(i≠H.length/\i≠id/\Xj H i=some a):=fun i a e=>by
  by_cases d:i=H.length
  ·left;refine⟨d,?_⟩;simp only[d,if_true,Za]at e;exact e.symm
  ·by_cases Q:i=id
   ·right;left;refine⟨d,Q,?_⟩;simp only[Q,if_true]at e;rw[if_neg (fun h=>c5 h.symm),Za]at e;exact e.symm
   ·right;right;refine⟨d,Q,?_⟩;simp only[d,Q,if_false]at e;exact e
 have a3:∀x,Live O (fun y=>if y=H.length then g else μ y) (fun y=>if y=H.length then some q else if y=id then some r else Xj H y) x->O1 x\/x=t 0\/x=g:=by
  rintro x (n|⟨i,a,d,d3,rfl⟩)
  ·exact .inl ⟨.inl n,fun e=>u.S7 id b M (e▸n)⟩
  ·rcases a5 i a d with⟨rfl,rfl⟩|⟨A,rfl,rfl⟩|⟨A,z,d⟩
   ·exact .inr (.inr (if_pos rfl))
   ·exact .inr (.inl (by simp only[A,if_false];exact a8.symm))
   ·simp only[A,if_false];exact .inl ⟨.inr ⟨i,a,d,d3,rfl⟩,fun e=>z (u.inj i id a b d M e)⟩
 have a0:∀x,Live O (fun y=>if y=H.length then g else μ y) (fun y=>if y=H.length then some q else if y=id then some r else Xj H y) x->Live O1 t (Xj (r::G)) x:=fun x n=>by
  rcases a3 x n with A|A|A
  ·exact .inl A
  ·exact .inr ⟨0,r,rfl,b7,A.symm⟩
  ·exact .inr ⟨i+1,q,F,c9,a4.trans A.symm⟩
 have D:∀k,k<w.heap.size->k≠μ id->w'.heap[k]? =w.heap[k]? :=fun k m z=>by
  by_cases Y:Live O μ (Xj H) k
  ·exact N.N1 k ⟨Y,z⟩
  ·exact N.keeps.VM k m (by rw[s];exact Y)
 have J:Wy O w μ (Xj H) w' (fun y=>if y=H.length then g else μ y) (fun y=>if y=H.length then some q else if y=id then some r else Xj H y):=by
  have z:∀i B,Xj H i=some B->i≠H.length:=fun i B e h=>by
   subst h;simp[Xj]at e
  refine⟨N.os,N.tape,N.output,⟨N.keeps.size,fun k m hn=>D k m fun e=>hn (e▸b8),fun k m=> ?_⟩,fun k m=>D k (u.lt k m) fun e=>u.S7 id b M (e▸m),fun i B d=> ?_,fun i B d _=>by simp only[z i B d,if_false]⟩
  ·have:=N.keeps.live k (a0 k m)
   rwa[s]at this
  ·have hn:=z i B d;by_cases e:i=id
   ·subst e;rw[M]at d;cases d;refine⟨r,by simp[hn],by omega,by rw[Z,c4],fun _=>⟨by simp[hn],m2,fun C T hC=> ?_⟩⟩;exact m3 C T hC
   ·exact⟨B,by simp[e,hn,d],Ze _,rfl,fun _=>⟨by simp[hn],rfl,fun C T hC=>⟨C,by rw[D _ (u.lt_size d) fun e2=>e (u.inj i id B b d M e2)];exact hC,rfl⟩⟩⟩
 have I:∀(j:Nat) (bj:Xx) (k:Nat),Xj (r::G) j=some bj->bj.mp=false->bj.ch.all Wc=true->(if k=H.length then g else μ k)=t j->Wr w' O (fun y=>if y=H.length then g else μ y) (fun y=>if y=H.length then some q else if y=id then some r else Xj H y) k bj:=fun j bj k R d8 d9 d7=>by
  have m:=a2.RH j bj R;unfold Wr at m⊢;rw[d8]at m⊢;simp only[Zy,if_false]at m⊢;obtain⟨C,c1,c2,c3⟩:=m;refine⟨C,by rw[d7];exact c1,c2,fun j c R=>⟨(c3 j c R).1,fun k dl m=> ?_⟩⟩;obtain⟨v,v1,v2⟩:=(c3 j c R).2 k dl m;exact⟨v,v1,by
   obtain⟨l,rfl⟩:=Sf (ZI.1 d9 c (Zk R)) dl (Zk m);exact XE.p _ _ ((XE.OS v2).tt a0)⟩
 have c0:X3 w' O (fun y=>if y=H.length then g else μ y) (fun y=>if y=H.length then some q else if y=id then some r else Xj H y):=by
  have L:∀i a,(fun y=>if y=H.length then some q else if y=id then some r else Xj H y) i=some a->i≠H.length->∃c,Xj H i=some c:=fun i a e hn=>by
   rcases a5 i a e with⟨A,_⟩|⟨_,rfl,_⟩|⟨_,_,e⟩
   ·exact absurd A hn
   ·exact⟨b,M⟩
   ·exact⟨a,e⟩
  refine⟨fun i B d=> ?_,fun i1 i2 x y n hy X=> ?_,fun i B d=> ?_,fun k m=>ZZ (u.lt k m) N.keeps.size⟩
  ·rcases a5 i B d with⟨rfl,rfl⟩|⟨A,rfl,rfl⟩|⟨A,z,a6⟩
   ·exact I _ _ _ F e0 a9 (by rw[if_pos rfl];exact a4.symm)
   ·exact I 0 _ _ rfl Z S (by rw[if_neg A];exact a8.symm)
   ·exact(u.RH i B a6).mono J (by simp only[A,if_false];exact D _ (u.lt_size a6) fun e2=>z (u.inj i id B b a6 M e2))
  ·by_cases e1:i1=H.length<;>by_cases e2:i2=H.length
   ·rw[e1,e2]
   ·obtain⟨c,hc⟩:=L i2 y hy e2;have:=u.lt_size hc;simp only[e1,e2,if_true,if_false]at X;omega
   ·obtain⟨c,hc⟩:=L i1 x n e1;have:=u.lt_size hc;simp only[e1,e2,if_true,if_false]at X;omega
   ·obtain⟨c,hc⟩:=L i1 x n e1;obtain⟨c',d4⟩:=L i2 y hy e2;simp only[e1,e2,if_false]at X;exact u.inj i1 i2 c c' hc d4 X
  ·by_cases e:i=H.length
   ·simp only[e,if_true];intro hO;have:=u.lt _ hO;omega
   ·obtain⟨c,hc⟩:=L i B d e;simp only[e,if_false];exact u.S7 i c hc
 refine⟨v,_,X,?_,c0,J⟩;have h3:XE w' O1 t (Xj (r::G)) v (.own (i+1) E 0 U):=c6;cases h3 with
 |own _ _ _ _ b4 g' o d0 b5 hv Y hs=>
  rw[F]at b5;cases b5;exact XE.own H.length E 0 U q g' o d0 (if_pos rfl) hv Y fun e=>by
   obtain⟨e1,C,T,e2,e3⟩:=hs e;simp only[if_true];rw[a4]at e1 e2;exact⟨e1,C,T,e2,e3⟩
theorem CQ {E:Xa}{f:Nat}{Q:Prop}(hE:∀as H d U,E.heap f as H=some (d,U)->CH P f as H d U/\Q){ds:X'}{H:V'}{d:DV}{U:V'}(a:TX E f ds H=some (d,U)):CH P f ds H d U/\Q:=by
 unfold TX at a;split at a
 case h_2=>
  rename_i id XM b4 ho;cases s:RO ds with
  |false=>simp[s]at a
  |true=>
  simp only[s,cond_true]at a;split at a
  ·rename_i b hb;cases u:(Nat.beq b.XM XM&& !b.mp&& !b.fz&&b.ch.all Wc)with
   |false=>rw[u]at a;simp at a
   |true=>
   rw[u,cond_true]at a;split at a
   ·rename_i i b5 R b' G hh;split at a
    ·rename_i x hG;cases h:(Nat.beq b'.XM b.XM&& !b'.fz&& !b'.mp&&b'.ch.all Wc&& !x.fz&& !x.mp&&x.ch.all Wc)with
     |false=>rw[h]at a;simp at a
     |true=>
     rw[h,cond_true]at a;simp only[Za,Zp]at a;obtain⟨rfl,rfl⟩:=a;simp only[Zs,YB]at u h;obtain⟨⟨⟨_,L⟩,z⟩,q⟩:=u;obtain⟨⟨⟨⟨⟨⟨N,a0⟩,a3⟩,B⟩,b1⟩,b3⟩,S⟩:=h;obtain⟨F,hq⟩:=hE _ _ _ _ hh;exact⟨zV F ho s hb L z q hG (Zl N) a0 a3 B b1 b3 S,hq⟩
    ·simp at a
   ·simp at a
  ·simp at a
 cases hc:ds.all SP with
 |false=>simp[hc]at a
 |true=>
 simp only[hc,cond_true]at a;split at a
 ·rename_i i XM R G hh;split at a
  ·rename_i b hb;cases u:(!b.fz&& !b.mp&&b.ch.all Wc)with
   |false=>rw[u]at a;simp at a
   |true=>
   rw[u,cond_true]at a;simp only[Za,Zp]at a;obtain⟨rfl,rfl⟩:=a;simp only[Zs,YB]at u;obtain⟨⟨z,L⟩,q⟩:=u;obtain⟨F,hq⟩:=hE _ _ _ _ hh;refine⟨fun w O μ vs hI a8=> ?_,hq⟩;have X:∀x,Live O μ (Xj H) x->x<w.heap.size:=by
    intro x s;rcases s with s|⟨i,V,hi,_,rfl⟩
    ·exact hI.lt x s
    ·exact hI.lt_size hi
   have D:Xj ([]:V')=h0:=by funext x;rfl
   have m:Live (Live O μ (Xj H)) μ0 (Xj [])=Live O μ (Xj H):=by rw[D];exact TP _
   have a7:X3 w (Live O μ (Xj H)) μ0 (Xj []):=by
    rw[D];exact⟨(fun _ _ e=>by cases e),(fun _ _ _ _ e=>by cases e),(fun _ _ e=>by cases e),X⟩
   refine(F w (Live O μ (Xj H)) μ0 vs a7 (Nx (fun v l hp=>by rw[m];exact hp) hc a8)).mono fun e w' ⟨v,r,he,a4,W,J⟩=> ?_
   have Z:∀k,k<w.heap.size->w'.heap[k]? =w.heap[k]? :=fun k A=>by
    by_cases I:Live O μ (Xj H) k
    ·exact J.N1 k I
    ·exact J.keeps.VM k A (by rw[m];exact I)
   have t:Xj G i=some b:=hb;have a9:¬Live O μ (Xj H) (r i):=W.S7 i b t;have y:w.heap.size<=r i:=by
    rcases J.keeps.live (r i) (.inr ⟨i,b,t,z,rfl⟩)with s|s
    ·rw[m]at s;exact absurd s a9
    ·exact s
   have M:Xj H H.length=none:=by simp[Xj]
   obtain⟨K,a2⟩:=pk (w':=w') (n:=H.length) hI M b y J.keeps.size Z J.os J.tape J.output;have hH:Xj (H++[b])=fun x=>if x=H.length then some b else Xj H x:=by
    funext x;simp only[Xj,List.getElem?_append];by_cases e:x=H.length
    ·subst e;simp
    ·by_cases I:x<H.length
     ·simp[e,I]
     ·have :H.length<x:=by omega
      rw[if_neg I,if_neg e,Yd (by simp;omega),Yd (by omega)]
   rw[hH];have a5:∀x,Live O (fun id=>if id=H.length then r i else μ id) (fun x=>if x=H.length then some b else Xj H x) x->Live (Live O μ (Xj H)) r (Xj G) x:=by
    rintro x (s|⟨id,V,a1,hf,rfl⟩)
    ·exact .inl (.inl s)
    ·by_cases e:id=H.length
     ·simp only[e,if_true];exact .inr ⟨i,b,t,z,rfl⟩
     ·simp only[e,if_false]at a1⊢;exact .inl (.inr ⟨id,V,a1,hf,rfl⟩)
   have b0:Wr w' O (fun id=>if id=H.length then r i else μ id) (fun x=>if x=H.length then some b else Xj H x) H.length b:=by
    have A:=W.RH i b t;unfold Wr at A⊢;rw[L]at A⊢;simp only[Zy,if_false,if_true]at A⊢;obtain⟨C,c1,c2,c3⟩:=A;refine⟨C,c1,c2,fun j c hj=>⟨(c3 j c hj).1,fun k dl A=> ?_⟩⟩;obtain⟨v,v1,v2⟩:=(c3 j c hj).2 k dl A;refine⟨v,v1,?_⟩;obtain⟨l,rfl⟩:=Sf (ZI.1 q c (Zk hj)) dl (Zk A);exact XE.p _ _ (Ws.tt a5 (XE.OS v2))
   refine⟨v,_,he,?_,a2 b0,K⟩;have h3:XE w' (Live O μ (Xj H)) r (Xj G) v (.own i XM 0 R):=a4;cases h3 with
   |own _ _ _ _ b2 g o a6 Y hv I hs=>
    rw[t]at Y;cases Y;exact XE.own H.length XM 0 R b g o a6 (if_pos rfl) hv I fun e=>by
     obtain⟨e1,C,T,e2,e3⟩:=hs e;simp only[if_true];exact⟨e1,C,T,e2,e3⟩
  ·simp at a
 ·simp at a
theorem Ap (E:Xa)(f:Nat)(hE:∀D r,E.pure f D=some r->CC P f D r)(hV:∀as H d H',E.heap f as H=some (d,H')->CH P f as H d H')(R:List Value)(F:X')(C:XB (XA w O μ h) R F)(r:Va)(q:VB E h f F=some r)(y:X3 w O μ h):
  Calls P f R.toArray w fun e S=>∃v,e=.returned v/\XA S O μ (pL h n r) v r.val/\X3 S O μ (pL h n r)/\Wy O w μ h S μ (pL h n r):=by
 unfold VB at q;split at q
 ·cases hm:Xv (XT h) F with
  |none=>simp[hm]at q
  |some D=>
  simp only[hm]at q;cases t:E.pure f D with
  |none=>simp[t]at q
  |some pr=>
  simp only[t]at q;have W:=hE D pr t;generalize A:F.flatMap (SK h)=ids at q;have o:∀id∈ids,∃b,h id=some b:=by
   intro id g;rw[<-A]at g;obtain⟨d,_,U⟩:=Ys.1 g;exact Po d id U
  let L:BS:=fun b=>Live O μ h b/\¬∃id∈ids,μ id=b
  have a1:∀b,L b->b<w.heap.size:=by
   intro b u;rcases u.1 with h1|⟨id,RH,g,_,rfl⟩
   ·exact y.lt b h1
   ·exact y.lt_size g
  have B:XB (fun v p=>XA w L μ0 h0 v (inj p)) R D:=by
   obtain⟨J,I⟩:=TG hm;refine XB.Uj (by rw[C.length,J]) fun i v p hv t=> ?_
   obtain⟨d,U,Z⟩:=I i p t;obtain⟨v',N,k⟩:=C.get i d U;rw[hv]at N;cases N;refine RY y L (fun b u=>u.1) d p v k Z fun id g hL=>hL.2 ⟨id,?_,rfl⟩
   rw[<-A];exact Ys.2 ⟨d,Zk U,g⟩
  refine(W w L R a1 B).mono fun e S ⟨v,G,k,a⟩=>⟨v,G,?_⟩
  cases j:(ids.isEmpty||pr.scalar)with
  |true=>
   rw[j,cond_true,Za]at q;subst q;obtain⟨m,s⟩:=Te y a.size a.block a.os a.tape a.output;refine⟨?_,s,m⟩;rw[Bool.or_eq_true]at j;rcases j with h1|h1
   ·have K:ids=[]:=by simpa using h1
    refine dM (fun v l t=> ?_) k;rw[TP]at t;refine t.tt fun b u=>⟨u,?_⟩
    rw[K];simp
   ·exact vh h1 k
  |false=>
   rw[j,cond_false,Za]at q;subst q;have M:pL h n ⟨inj pr,[],ids.filterMap (fun id=>(h id).map fun b=>(id,{b with fz:=true})),ids⟩=AD h ids:=by
    show Sg h _=_;rw[lj ids h h (fun x b u=>⟨b,u,rfl⟩) o];rfl
   rw[M];obtain⟨m,s⟩:=dP y ids a.size a.block a.os a.tape a.output;refine⟨?_,s,m⟩;refine dM (fun v l t=> ?_) k;rw[TP]at t;refine t.tt fun b u=> ?_
   rcases u with h1|⟨id,RH,g,hf,rfl⟩
   ·refine⟨.inl h1,fun⟨id,g,G⟩=> ?_⟩;obtain⟨c,T⟩:=o id g;exact y.S7 id c T (G▸h1)
   ·obtain⟨c,T,_,_,_,_,_,a0⟩:=NI g;obtain⟨X,Y⟩:=a0 hf;refine⟨.inr ⟨id,c,T,X,rfl⟩,fun⟨Q,z,G⟩=> ?_⟩;obtain⟨c2,V⟩:=o Q z;have:=y.inj Q id c2 c V T G;subst this;exact Y z
 ·simp at q
 ·exact(Ao (n:=n) E f hV R F C r q y).mono fun e S h=>h
end
end Go.Ev
