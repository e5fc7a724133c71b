/- Freezing: a reference into the call's own blocks as a pure value. -/
import Derived.Test.YtidginchkjhobaaGreatEvHeap
namespace Go.Ev
section
variable {P:Program}{O:BS}{w:World}{μ:Nat->Nat}{h:HF}{n:Nat}
theorem Ws.u7 {L A}(B:∀b,A b->L b){v}{l}(r:Ws w L v l):Ws w A v l:=by
 induction r with
 |bool b=>exact .bool b
 |int a n=>exact .int a n
 |Xp=>exact .Xp
 |str s=>exact .str s
 |Qx v h=>exact .Qx v h
 |fn f k D G p o=>exact .fn f k D G o
 |ref b g C e x p H o=>exact .ref b g C e (fun j d u t=>x j d u (B _ t)) p o
 |Xl b g I q E e x m z p H y o=>exact .Xl b g I q E e (fun i c j d F u t=>x i c j d F u (B _ t)) m z p o y
theorem TS {g c:Type}{f:g->Option c}{a:List g}{b:List c}(h:Xw f a=some b):a.length=b.length/\∀(i:Nat) (y:c),b[i]? =some y->∃x,a[i]? =some x/\f x=some y:=by
 have d:=Pz (R:=fun x y=>f x=some y) (fun _ _ e=>e) h;exact⟨d.length,fun i y j=>d.get i y j⟩
def h0:HF:=fun _=>none
def μ0:Nat->Nat:=fun _=>0
theorem T5 (L):Live L μ0 h0=L:=by grind [Live,h0]
theorem gk (hI:X1 w O μ h)(L:BS)(hL:∀b,L b->Live O μ h b):∀(k:Nat) (l:DL) (R:PL) (v:Value),XH w O μ h v l->XG k h l=some R->(∀id∈Vt k h l,¬L (μ id))->Ws w L v R:=by
 intro k;induction k with
 |zero=>
  intro l R v hr m _;cases hr with
  |p v l hp=>simp only[XG,Zb]at m;subst m;exact hp.u7 hL
  |own=>simp[XG]at m
  |ptr=>simp[XG]at m
  |fn=>simp[XG]at m
  |mp=>simp[XG]at m
 |succ k ih=>
  intro l R v hr m r;cases hr with
  |p v l hp=>simp only[XG,Zb]at m;subst m;exact hp.u7 hL
  |mp=>simp[XG]at m
  |fn f I cv hl hc=>
   simp only[XG]at m;cases s:Xw (XG k h) I with
   |none=>simp[s]at m
   |some U=>
   simp only[s,Zb]at m;subst m;obtain⟨B,q⟩:=TS s;refine .fn f U cv (by omega) fun i d v hd hv=> ?_
   grind [Vt]
  |own id XW n G b g o S H hv hl hs=>
   simp only[XG,H]at m;obtain⟨a,e⟩:=Wq m;simp only[Zs]at a;have z:=Zl a.1.1;have F:b.mp=false:=by simpa using a.1.2
   have a3:=Vp a.2;cases s:Xw (Xw (XG k h)) ((b.ch.drop n).take G)with
   |none=>simp[s]at e
   |some V=>
   simp only[s,Zb]at e;subst e;obtain⟨B,q⟩:=TS s;have X:V.length=G:=by grind
   obtain⟨rfl,C,T,hC,hd⟩:=hs z.symm;obtain⟨C2,J,a2,W⟩:=(hI.RV id b H).cells F;rw[hC]at J;cases J;have t:¬L (μ id):=r id (by grind [Vt]);have E:∀(i:Nat) (c:N'),V[i]? =some c->∃x,b.ch[n+i]? =some x/\Xw (XG k h) x=some c/\i<G:=by
    grind
   rw[<-X];refine .Xl (μ id) o b.sz S V (fun i j=>C[o+i*b.sz+j]?.getD (.bool true)) (fun i c j d _ _=>t) (by omega) (fun i c Z=> ?_) (fun i c j d Z N=> ?_) (fun i c j d Z N=> ?_) (.inr rfl)
   ·grind [TS]
   all_goals
    obtain⟨x,hx,K,a1⟩:=E i c Z;obtain⟨y,hy,Y⟩:=(TS K).2 j d N;obtain⟨u,hu,Q⟩:=(W _ x hx).2 j y hy;have ho:o=n*b.sz:=by
     rcases hd with⟨h1,_⟩|⟨h1,_⟩
     ·exact h1
     ·omega
    have P:C[o+i*b.sz+j]? =some u:=by rw[<-hu,ho];congr 1;rw[ZX]
   ·grind [World.cell?]
   ·simp only[P,Option.getD_some];refine ih y d u Q Y fun a0 M=>r a0 ?_
    simp only[Vt,H];refine Za _ (YB.2 ⟨x,?_,YB.2 ⟨y,Zh hy,M⟩⟩)
    grind
  |ptr id XW i n b g o H hv hs=>
   simp only[XG,H]at m;obtain⟨a,e⟩:=Wq m;simp only[Zs]at a;have z:=Zl a.1;have F:b.mp=false:=by simpa using a.2
   cases D:b.ch[i]? with
   |none=>simp[D]at e
   |some c=>
   simp only[D]at e;cases s:Xw (XG k h) (c.drop n)with
   |none=>simp[s]at e
   |some U=>
   simp only[s,Zb]at e;subst e;obtain⟨B,q⟩:=TS s;obtain⟨rfl,rfl⟩:=hs z.symm;have t:¬L (μ id):=r id (by grind [Vt]);have A:=NA hI H F D n;refine .ref (μ id) (i*b.sz+n) U (fun j=>(w.cell? ⟨μ id,i*b.sz+n+j,none⟩).getD (.bool true)) (fun _ _ _=>t) (fun j d N=> ?_) (fun j d N=> ?_);all_goals
    obtain⟨x,hx,K⟩:=q j d N;obtain⟨u,hu,Q⟩:=A j x hx
   ·grind
   grind [Vt]
theorem R8 (z:X1 w O μ h)(L:BS)(A:∀b,L b->Live O μ h b)(d:DV)(p:PV)(v:Value)(t:XF w O μ h v d)(a:XX h d=some p)(g:∀id∈Rj h d,¬L (μ id)):XF w L μ0 h0 v (inj p):=by
 cases d with
 |Wd _=>simp[XX]at a
 |one l=>
  simp only[XX]at a;cases e:XG WQ h l with
  |none=>simp[e]at a
  |some n=>
  simp only[e,Zb]at a;subst a;have:=gk z L A _ l n v t e g;exact XH.p _ _ (by rw[T5];exact this)
 |agg u=>
  simp only[XX]at a;cases e:Xw (XG WQ h) u with
  |none=>simp[e]at a
  |some r=>
  simp only[e,Zb]at a;subst a;obtain⟨F,rfl,s⟩:=t;refine⟨F,rfl,?_⟩;obtain⟨j,f⟩:=TS e;refine XE.Uq (by rw[s.length,j];simp) fun i x y E m=> ?_
  rw[ZR]at m;cases o:r[i]? with
  |none=>simp[o]at m
  |some n=>
  simp only[o,Ym,Zb]at m;subst m;obtain⟨c,B,C⟩:=f i n o;obtain⟨G,k,D⟩:=s.get i c B;rw[E]at k;cases k;have q:Ws w L x n:=by
   grind [gk,Rj]
  exact XH.p _ _ (by rw[T5];exact q)
end
open Go.RowKit
section
variable {P:Program}{O:BS}{w:World}{μ:Nat->Nat}{h:HF}{n:Nat}
def CC (P:Program)(f:Nat)(ps:List PV)(r:PV):Prop:=
 ∀(w:World) (L:BS) (vs:List Value),(∀b,L b->b<w.heap.size)->XE (fun v p=>XF w L μ0 h0 v (inj p)) vs ps->
  Calls P f vs.toArray w fun e w'=>∃v,e=.returned v/\XF w' L μ0 h0 v (inj r)/\Below w.heap.size w w'
theorem yt {e}{L d}{v}{l}(c:l.scalar=true)(r:Ws w L v l):Ws e d v l:=by
 cases r with
 |bool b=>exact .bool b
 |int k a=>exact .int k a
 |Xp=>exact .Xp
 |str s=>exact .str s
 |Qx v h=>exact .Qx v h
 |fn=>simp[PL.scalar]at c
 |ref=>simp[PL.scalar]at c
 |Xl=>simp[PL.scalar]at c
theorem XH.Nj {v}{l}(r:XH w O μ h v (.p l)):Ws w (Live O μ h) v l:=by cases r with |p _ _ a=>exact a
theorem qu {k}{d}{c}{e}{p}{v}(j:∀v l,Ws w (Live O μ h) v l->Ws k (Live d c e) v l)(r:Ua w O μ h v (qv p)):
  Ua k d c e v (qv p):=by
 cases p with
 |one l=>exact XH.p _ _ (j _ _ (XH.Nj r))
 |agg m=>
  obtain⟨q,rfl,f⟩:=r;refine⟨q,rfl,?_⟩;refine XE.Uq f.length fun i x y o b=> ?_
  obtain⟨t,a,n⟩:=f.get i y b;rw[o]at a;cases a;rw[ZR]at b;cases g:m[i]? with
  |none=>simp[g]at b
  |some l=>simp only[g,Ym,Zb]at b;subst b;exact XH.p _ _ (j _ _ (XH.Nj n))
 |Wd s=>exact r
theorem eQ {f}{b}{a}{c}{p}{v}(e:∀v l,Ws w (Live O μ h) v l->Ws f (Live b a c) v l)(r:XF w O μ h v (inj p)):XF f b a c v (inj p):=by
 cases p with
 |one l=>exact qu (p:=.one l) e r
 |agg g=>exact qu (p:=.agg g) e r
 |Wd q=>
  obtain⟨m,rfl,d⟩:=r;refine⟨m,rfl,XE.Uq d.length fun i x y o k=> ?_⟩;obtain⟨s,j,n⟩:=d.get i y k
  grind [qu]
theorem Nk {o}{g}{d}{k}{p}{v}(f:p.NV=true)(r:Ua w O μ h v (qv p)):
  Ua o g d k v (qv p):=by
 cases p with
 |one l=>exact XH.p _ _ (yt f (XH.Nj r))
 |agg j=>
  obtain⟨q,rfl,e⟩:=r;refine⟨q,rfl,XE.Uq e.length fun i x y n b=> ?_⟩;obtain⟨t,a,m⟩:=e.get i y b;rw[n]at a;cases a;rw[ZR]at b;cases c:j[i]? with
  |none=>simp[c]at b
  |some l=>
   simp only[c,Ym,Zb]at b;subst b;exact XH.p _ _ (yt (ZH.1 f l (Zh c)) (XH.Nj m))
 |Wd s=>exact r
theorem w9 {s}{g}{e}{k}{p}{v}(c:p.scalar=true)(r:XF w O μ h v (inj p)):XF s g e k v (inj p):=by
 cases p with
 |one l=>exact Nk (p:=.one l) c r
 |agg j=>exact Nk (p:=.agg j) c r
 |Wd o=>
  obtain⟨t,rfl,f⟩:=r;refine⟨t,rfl,XE.Uq f.length fun i x y n b=> ?_⟩;obtain⟨u,a,m⟩:=f.get i y b;rw[n]at a;cases a;rw[ZR]at b;cases d:o[i]? with
  |none=>simp[d]at b
  |some q=>
   simp only[d,Ym,Zb]at b;subst b;exact Nk (p:=q) (ZH.1 c q (Zh d)) m
def Cl (h:HF)(ids:P'):HF:=fun x=>if x∈ids then(h x).map fun b=>{b with fz:=true}else h x
theorem mW:∀(a:P') (h g:HF),(∀x b,h x=some b->∃d,g x=some d/\{d with fz:=true}={b with fz:=true})->(∀id∈a,∃b,h id=some b)->
  SC g (a.filterMap (fun id=>(h id).map fun b=>(id,{b with fz:=true})))=fun x=>if x∈a then(h x).map fun b=>{b with fz:=true}else g x
 |[],h,g,_,_=>by funext x;simp[SC]
 |id::a,h,g,hg,hs=>by
  obtain⟨b,e⟩:=hs id (by simp);rw[List.filterMap_cons];simp only[e,Ym,SC];rw[mW a h _ (fun x c j=> ?_) (fun i f=>hs i (by simp[f]))]
  ·grind
  grind
theorem zm {ids}{x}{b}(c:h x=some b):∃a,Cl h ids x=some a/\a.XW=b.XW/\a.sz=b.sz/\a.ch=b.ch/\a.mp=b.mp/\a.ty=b.ty/\(a.fz=false->b.fz=false/\x∉ids):=by grind [Cl]
theorem ao {ids}{x}{a}(e:Cl h ids x=some a):∃b,h x=some b/\a.XW=b.XW/\a.sz=b.sz/\a.ch=b.ch/\a.mp=b.mp/\a.ty=b.ty/\(a.fz=false->b.fz=false/\x∉ids):=by
 cases d:h x with
 |none=>grind [Cl]
 |some b=>
  obtain⟨c,f,rest⟩:=zm (ids:=ids) d
  grind
theorem eY {w'}(g:X1 w O μ h)(ids)(i:w.heap.size<=w'.heap.size)(a:∀k,k<w.heap.size->w'.heap[k]? =w.heap[k]?)(m:w'.os=w.os)(o:w'.tape=w.tape)(n:w'.output=w.output):
  WL O w μ h w' μ (Cl h ids)/\X1 w' O μ (Cl h ids):=by
 have q:WL O w μ h w' μ (Cl h ids):=by
  refine⟨m,o,n,⟨i,fun k f _=>a k f,fun k f=> ?_⟩,fun k f=>a k (g.lt k f),fun id b d=> ?_,fun _ _ _ _=>rfl⟩
  ·rcases f with f|⟨id,RV,hid,hf,j⟩
   ·exact .inl (.inl f)
   ·obtain⟨b,d,_,_,_,_,_,l⟩:=ao hid;exact .inl (.inr ⟨id,b,d,(l hf).1,j⟩)
  ·obtain⟨p,e,e1,e2,r,s,t,_⟩:=zm (ids:=ids) d
   grind
 refine⟨q,⟨fun id p e=> ?_,fun A B x y v z j=> ?_,fun id p e=> ?_,fun k f=>ZO (g.lt k f) i⟩⟩
 ·obtain⟨b,d,e1,e2,r,s,t,_⟩:=ao e;have:=(g.RV id b d).mono q (a _ (g.lt_size d))
  grind [Wx]
 ·obtain⟨b,d,_⟩:=ao v;obtain⟨c,u,_⟩:=ao z;exact g.inj A B b c d u j
 ·obtain⟨b,d,_⟩:=ao e;exact g.Rl id b d
theorem PF:∀k l,∀id∈Vt k h l,∃b,h id=some b
 |0,.p _,id,hid=>by simp[Vt]at hid
 |0,.own ..,id,hid=>by simp[Vt]at hid
 |0,.ptr ..,id,hid=>by simp[Vt]at hid
 |0,.fn ..,id,hid=>by simp[Vt]at hid
 |0,.mp _,id,hid=>by simp[Vt]at hid
 |k+1,.p _,id,hid=>by simp[Vt]at hid
 |k+1,.mp _,id,hid=>by simp[Vt]at hid
 |k+1,.fn f caps,id,hid=>by
  simp only[Vt]at hid;obtain⟨x,_,d⟩:=YB.1 hid;exact PF k x id d
 |k+1,.own i XW off len,id,hid=>by
  simp only[Vt]at hid;cases a:h i with
  |none=>simp[a]at hid
  |some b=>
  simp only[a,Zk]at hid;rcases hid with rfl|hid
  ·exact⟨b,a⟩
  ·obtain⟨c,_,e⟩:=YB.1 hid;obtain⟨x,_,d⟩:=YB.1 e;exact PF k x id d
 |k+1,.ptr i XW j off,id,hid=>by
  simp only[Vt]at hid;cases a:h i with
  |none=>simp[a]at hid
  |some b=>
  simp only[a]at hid;cases e:b.ch[j]? with
  |none=>simp[e]at hid
  |some c=>
  simp only[e,Zk]at hid;rcases hid with rfl|hid
  ·exact⟨b,a⟩
  ·obtain⟨x,_,d⟩:=YB.1 hid;exact PF k x id d
theorem PE (d):∀id∈Rj h d,∃b,h id=some b:=by
 intro id a;cases d with
 |one l=>exact PF _ l id a
 |agg e=>obtain⟨c,_,f⟩:=YB.1 a;grind [PF]
 |Wd _=>simp[Rj]at a
def CH (P:Program)(f:Nat)(args:X')(H:V')(d:DV)(H':V'):Prop:=
 ∀(w:World) (O:BS) (μ:Nat->Nat) (vs:List Value),X1 w O μ (Xj H)->XE (XF w O μ (Xj H)) vs args->
  Calls P f vs.toArray w fun e w'=>∃v μ',e=.returned v/\XF w' O μ' (Xj H') v d/\X1 w' O μ' (Xj H')/\WL O w μ (Xj H) w' μ' (Xj H')
theorem Sy:∀{cs},Wi cs=true->∀d∈cs,∃l,d=.p l
 |[],_,d,h=>by cases h
 | .p l::cs,h,d,hd=>by
   rcases Zk.1 hd with rfl|hd
   ·exact⟨l,rfl⟩
   ·exact Sy (cs:=cs) h d hd
 | .own ..::_,h,_,_=>by simp[Wi]at h
 | .ptr ..::_,h,_,_=>by simp[Wi]at h
 | .fn ..::_,h,_,_=>by simp[Wi]at h
 | .mp _::_,h,_,_=>by simp[Wi]at h
theorem nE {m}{i}{f}{j}{d}(k:RC d=true){v}(o:∀v l,Ws w (Live O μ h) v l->Ws m (Live i f j) v l)(r:XF w O μ h v d):XF m i f j v d:=by
 have b:∀(a:Y') (e:List Value),Wi a=true->XE (XH w O μ h) e a->XE (XH m i f j) e a:=by
  intro a;induction a with
  |nil=>intro e _ g;cases g;exact .nil
  |cons c a t=>
   intro e n g;cases g with
   |cons q s=>
    cases c with
    |p l=>exact .cons (XH.p _ _ (o _ _ (XH.Nj q))) (t _ n s)
    |_=>simp[Wi]at n
 cases d with
 |one l=>cases l with
  |p l=>exact XH.p _ _ (o _ _ (XH.Nj r))
  |_=>simp[RC]at k
 |agg a=>
  obtain⟨e,rfl,g⟩:=r;exact⟨e,rfl,b a e k g⟩
 |Wd _=>simp[RC]at k
theorem N1 {i}{c}{a}{e}(f:∀v l,Ws w (Live O μ h) v l->Ws i (Live c a e) v l):∀{b} {g},b.all RC=true->XE (XF w O μ h) g b->XE (XF i c a e) g b
 |[],_,_,ha=>by cases ha;exact .nil
 |d::b,_,hd,ha=>by
  rw[List.all_cons,Zs]at hd;cases ha with
  |cons j k=>exact .cons (nE hd.1 f j) (N1 f hd.2 k)
theorem aR {y}{j}{r}{id XW u}{b}(s:∀v l,Ws w (Live O μ h) v l->Ws w (Live y j r) v l)(B:h id=some b)(k:r 0=some b)(p:j 0=μ id):∀{a} {C},TH a=some (id,XW,u)->Qr a=true->XE (XF w O μ h) C a->XE (XF w y j r) C (S8 a)
 |[],_,ho,_,_=>by simp[TH]at ho
 |d::a,_,ho,hx,ha=>by
  cases ha with
  |cons z A=>
   unfold TH at ho;split at ho
   ·grind
   ·rename_i t f c x i;cases i;simp only[Zb,Zq]at ho;obtain⟨rfl,rfl,rfl⟩:=ho;simp only[Qr]at hx;simp only[S8];refine .cons ?_ (N1 s hx A);have D:XH w O μ h _ (.own t f 0 c):=z;cases D with
    |own _ _ _ _ H g o q m G E F=>
     rw[B]at m;cases m;exact XH.own 0 f 0 c b g o q k G E fun e=>by rw[p];exact F e
   ·rename_i v x n i;cases i;have e1:S8 (d::a)=d::S8 a:=S8.eq_3 d a n;have e2:Qr (d::a)=(RC d&&Qr a):=Qr.eq_3 d a n;rw[e2,Zs]at hx;rw[e1];exact .cons (nE hx.1 s z) (aR s B k p ho hx.2 A)
theorem zZ {E}{f}{b}{r}(c:WX E h f b=some r):∃as H d a,E.heap f as H=some (d,a):=by
 unfold WX at c
 grind
theorem B5 (E)(f)(hE:∀as H d H',E.heap f as H=some (d,H')->CH P f as H d H')(vs)(ds)(a7:XE (XF w O μ h) vs ds)(r)(q:WX E h f ds=some r)(z:X1 w O μ h):
  Calls P f vs.toArray w fun e T=>∃v,e=.returned v/\XF T O μ (rz h n r) v r.val/\X1 T O μ (rz h n r)/\WL O w μ h T μ (rz h n r):=by
 have X:∀x,Live O μ h x->x<w.heap.size:=by
  intro x o;rcases o with o|⟨i,a,F,_,rfl⟩
  ·exact z.lt x o
  ·exact z.lt_size F
 unfold WX at q;split at q
 ·cases Y:ds.all RC with
  |false=>simp[Y]at q
  |true=>
  simp only[Y,cond_true]at q;split at q
  ·rename_i d G hh;cases hf:XX (Xj G) d with
   |none=>simp[hf]at q
   |some p=>
   simp only[hf,Zb]at q;subst q;have a1:=hE _ _ _ _ hh;have b3:Xj ([]:V')=h0:=by funext x;rfl
   have m:Live (Live O μ h) μ0 (Xj [])=Live O μ h:=by grind [T5]
   have a0:X1 w (Live O μ h) μ0 (Xj []):=by
    rw[b3];exact⟨(fun _ _ e=>by cases e),(fun _ _ _ _ e=>by cases e),(fun _ _ e=>by cases e),X⟩
   refine(a1 w (Live O μ h) μ0 vs a0 (N1 (fun v l hp=>by rw[m];exact hp) Y a7)).mono fun e T ⟨v,U,he,M,A,D⟩=>⟨v,he,?_⟩
   have t:∀k,k<w.heap.size->T.heap[k]? =w.heap[k]? :=fun k g=>by
    by_cases hl:Live O μ h k
    ·exact D.aK k hl
    ·exact D.keeps.VS k g (by rw[m];exact hl)
   obtain⟨s,K⟩:=Tr z D.keeps.size t D.os D.tape D.output;refine⟨?_,K,s⟩;have Q:=R8 A (Live O μ h) (fun b I=>.inl I) d p v M hf fun id a4=>by
    obtain⟨b,I⟩:=PE d id a4;exact A.Rl id b I
   exact eQ (fun v l hp=>by rw[T5]at hp;exact hp) Q
  ·simp at q
 ·rename_i id XW c6 ho;cases o:Qr ds with
  |false=>simp[o]at q
  |true=>
  simp only[o,cond_true]at q;split at q
  ·rename_i b I;cases hd:(Nat.beq b.XW XW&& !b.mp&& !b.fz&&b.ch.all Wi)with
   |false=>grind
   |true=>
   rw[hd,cond_true]at q;split at q
   ·rename_i d R G hh;cases hf:XX (Xj (R::G)) d with
    |none=>simp[hf]at q
    |some p=>
    simp only[hf]at q;cases B:(Nat.beq R.XW b.XW&& !R.fz&& !R.mp&&R.ch.all Wi&& !((Rj (Xj (R::G)) d).contains 0))with
    |false=>grind
    |true=>
    rw[B,cond_true,Zb]at q;subst q;simp only[Zs,Yq]at hd B;obtain⟨⟨⟨_,c4⟩,a8⟩,a5⟩:=hd;obtain⟨⟨⟨⟨a6,a9⟩,b1⟩,S⟩,c5⟩:=B;have b5:R.XW=b.XW:=Zl a6;have a1:=hE _ _ _ _ hh;have a4:Live O μ h (μ id):=.inr ⟨id,b,I,a8,rfl⟩;let O1:BS:=fun x=>Live O μ h x/\x≠μ id
    let V:Nat->Nat:=fun _=>μ id
    have b7:∀i a,Xj [b] i=some a->i=0/\a=b:=fun i a e=>by
     cases i with
     |zero=>exact⟨rfl,by have :some b=some a:=e;cases this;rfl⟩
     |succ i=>have :(none:Option Xx)=some a:=e;cases this
    have m:Live O1 V (Xj [b])=Live O μ h:=by
     funext x;apply propext;constructor
     ·rintro (o|⟨i,a,F,_,he⟩)
      ·exact o.1
      grind
     ·intro o;by_cases e:x=μ id
      ·exact .inr ⟨0,b,rfl,a8,e.symm⟩
      ·exact .inl ⟨o,e⟩
    have N:∀v l,Ws w (Live O μ h) v l->Ws w (Live O1 V (Xj [b])) v l:=fun v l hp=>by rw[m];exact hp
    have a0:X1 w O1 V (Xj [b]):=by
     refine⟨fun i a e=> ?_,fun i i' x y e1 e2 _=> ?_,fun i a e o=>o.2 rfl,fun x o=>X x o.1⟩
     ·obtain⟨rfl,rfl⟩:=b7 i a e;have g:=z.RV id a I;unfold Wx at g⊢;rw[c4]at g⊢;simp only[ZC,if_false]at g⊢;obtain⟨C,c1,c2,c3⟩:=g;refine⟨C,c1,c2,fun j c hj=>⟨(c3 j c hj).1,fun k dl g=> ?_⟩⟩;obtain⟨v,v1,v2⟩:=(c3 j c hj).2 k dl g;exact⟨v,v1,by
       obtain⟨l,rfl⟩:=Sy (ZH.1 a5 c (Zh hj)) dl (Zh g);exact XH.p _ _ (N _ _ (XH.Nj v2))⟩
     grind
    refine(a1 w O1 V vs a0 (aR N I rfl rfl ho o a7)).mono fun e T ⟨v,U,he,M,A,D⟩=>⟨v,he,?_⟩
    obtain⟨u,b8,_,_,b0⟩:=D.ids 0 b rfl;have :u=R:=by have :some R=some u:=b8;cases this;rfl
    subst this;obtain⟨m1,m2,m3⟩:=b0 b5;have b6:U 0=μ id:=m1;have a2:∀i a,(fun x=>if x=id then some u else h x) i=some a->(i=id/\a=u)\/(i≠id/\h i=some a):=fun i a e=>by
     grind
    have b4:rz h n ⟨inj p,[],[(id,u)],[id]⟩=fun x=>if x=id then some u else h x:=rfl
    rw[b4];have J:∀x,Live O μ (fun x=>if x=id then some u else h x) x->O1 x\/x=U 0:=by
     rintro x (o|⟨i,a,F,b9,rfl⟩)
     ·exact .inl ⟨.inl o,fun e=>z.Rl id b I (e▸o)⟩
     ·rcases a2 i a F with⟨rfl,rfl⟩|⟨L,F⟩
      ·exact .inr b6.symm
      ·exact .inl ⟨.inr ⟨i,a,F,b9,rfl⟩,fun e=>L (z.inj i id a b F I e)⟩
    have Z:∀x,Live O μ (fun x=>if x=id then some u else h x) x->Live O1 U (Xj (u::G)) x:=fun x o=>by
     rcases J x o with Q|Q
     ·exact .inl Q
     ·exact .inr ⟨0,u,rfl,a9,Q.symm⟩
    have t:∀k,k<w.heap.size->k≠μ id->T.heap[k]? =w.heap[k]? :=fun k g L=>by
     by_cases hl:Live O μ h k
     ·exact D.aK k ⟨hl,L⟩
     ·exact D.keeps.VS k g (by rw[m];exact hl)
    have s:WL O w μ h T μ (fun x=>if x=id then some u else h x):=by
     refine⟨D.os,D.tape,D.output,⟨D.keeps.size,fun k g hn=>t k g fun e=>hn (e▸a4),fun k g=> ?_⟩,fun k g=>t k (z.lt k g) fun e=>z.Rl id b I (e▸g),fun i W F=> ?_,fun _ _ _ _=>rfl⟩
     ·grind
     grind
    have K:X1 T O μ (fun x=>if x=id then some u else h x):=by
     refine⟨fun i W F=> ?_,fun i1 i2 x y o hy he=> ?_,fun i W F=> ?_,fun k g=>ZO (z.lt k g) D.keeps.size⟩
     ·rcases a2 i W F with⟨rfl,rfl⟩|⟨L,a3⟩
      ·have g:=A.RV 0 W rfl;unfold Wx at g⊢;rw[b1]at g⊢;simp only[ZC,if_false]at g⊢;obtain⟨C,c1,c2,c3⟩:=g;rw[b6]at c1;refine⟨C,c1,c2,fun j c hj=>⟨(c3 j c hj).1,fun k dl g=> ?_⟩⟩;obtain⟨v,v1,v2⟩:=(c3 j c hj).2 k dl g;exact⟨v,v1,by
        obtain⟨l,rfl⟩:=Sy (ZH.1 S c (Zh hj)) dl (Zh g);exact XH.p _ _ ((XH.Nj v2).u7 Z)⟩
      ·exact(z.RV i W a3).mono s (t _ (z.lt_size a3) fun e2=>L (z.inj i id W b a3 I e2))
     ·have ex:∀i a,(fun x=>if x=id then some u else h x) i=some a->∃c,h i=some c:=fun i a e=>by
       grind
      obtain⟨c,Y⟩:=ex i1 x o;obtain⟨c',c0⟩:=ex i2 y hy;exact z.inj i1 i2 c c' Y c0 he
     ·rcases a2 i W F with⟨rfl,_⟩|⟨_,e⟩
      ·exact z.Rl i b I
      ·exact z.Rl i W e
    refine⟨?_,K,s⟩;have Q:=R8 A (Live O μ (fun x=>if x=id then some u else h x)) Z d p v M hf fun i F hl=>by
     obtain⟨c,Y⟩:=PE d i F;rcases J _ hl with Q|Q
     ·exact A.Rl i c Y Q
     ·have:=A.inj i 0 c u Y rfl Q
      grind
    grind [eQ,T5]
   ·simp at q
  ·simp at q
theorem qZ {w'}(d:X1 w O μ h)(z:h n=none)(b){g}(y:w.heap.size<=g)(q:w.heap.size<=w'.heap.size)(c:∀k,k<w.heap.size->w'.heap[k]? =w.heap[k]?)(o:w'.os=w.os)(r:w'.tape=w.tape)(p:w'.output=w.output):
  WL O w μ h w' (fun id=>if id=n then g else μ id) (fun x=>if x=n then some b else h x)/\
  (Wx w' O (fun id=>if id=n then g else μ id) (fun x=>if x=n then some b else h x) n b->X1 w' O (fun id=>if id=n then g else μ id) (fun x=>if x=n then some b else h x)):=by
 have s:WL O w μ h w' (fun id=>if id=n then g else μ id) (fun x=>if x=n then some b else h x):=by
  refine⟨o,r,p,⟨q,fun k f _=>c k f,fun k f=> ?_⟩,fun k f=>c k (d.lt k f),fun id x a=> ?_,fun id x a _=> ?_⟩
  ·rcases f with f|⟨id,RV,hid,hf,j⟩
   ·exact .inl (.inl f)
   ·by_cases e:id=n
    ·grind
    ·simp only[e,if_false]at hid j;exact .inl (.inr ⟨id,RV,hid,hf,j⟩)
  ·grind
  grind
 refine⟨s,fun v=>⟨fun id x a=> ?_,fun id l x u a i j=> ?_,fun id x a=> ?_,fun k f=> ?_⟩⟩
 ·by_cases e:id=n
  ·grind
  ·simp only[e,if_false]at a;exact(d.RV id x a).mono s (by simp only[e,if_false];exact c _ (d.lt_size a))
 ·by_cases e:id=n<;>by_cases m:l=n
  ·rw[e,m]
  ·simp only[m,if_false]at i;have:=d.lt_size i
   grind
  ·simp only[e,if_false]at a;have:=d.lt_size a
   grind
  ·simp only[e,m,if_false]at a i j;exact d.inj id l x u a i j
 ·by_cases e:id=n
  ·simp only[e,if_true];intro t;have:=d.lt _ t;omega
  ·simp only[e,if_false]at a⊢;exact d.Rl id x a
 ·have:=d.lt k f;omega
theorem BG {f}{ds}{H}{id XW b1 i u N}{b R n}{G}(c7:CH P f (S8 ds) [b] (.one (.own (i+1) u 0 N)) (R::G))(ho:TH ds=some (id,XW,b1))(d:Qr ds=true)(a1:H[id]? =some b)(d3:b.mp=false)(a3:b.fz=false)(Y:b.ch.all Wi=true)
  (hG:G[i]? =some n) (b0:R.XW=b.XW) (a4:R.fz=false) (d8:R.mp=false) (b6:R.ch.all Wi=true) (b5:n.fz=false) (e0:n.mp=false) (d6:n.ch.all Wi=true):CH P f ds H (.one (.own H.length u 0 N)) (H.set id R++[n]):=by
 intro w O μ vs s c8;have U:Xj H id=some b:=a1;have d7:id<H.length:=(Zg.1 a1).1;have a0:∀x,Live O μ (Xj H) x->x<w.heap.size:=by
  intro x d;rcases d with d|⟨i,a,z,_,rfl⟩
  ·exact s.lt x d
  ·exact s.lt_size z
 have d0:Live O μ (Xj H) (μ id):=.inr ⟨id,b,U,a3,rfl⟩;let S:BS:=fun x=>Live O μ (Xj H) x/\x≠μ id
 let Q:Nat->Nat:=fun _=>μ id
 have b9:∀i a,Xj [b] i=some a->i=0/\a=b:=fun i a e=>by
  cases i with
  |zero=>exact⟨rfl,by have :some b=some a:=e;cases this;rfl⟩
  |succ i=>have :(none:Option Xx)=some a:=e;cases this
 have t:Live S Q (Xj [b])=Live O μ (Xj H):=by
  funext x;apply propext;constructor
  ·rintro (d|⟨i,a,z,_,he⟩)
   ·exact d.1
   grind
  ·intro d;by_cases e:x=μ id
   ·exact .inr ⟨0,b,rfl,a3,e.symm⟩
   ·exact .inl ⟨d,e⟩
 have F:∀v l,Ws w (Live O μ (Xj H)) v l->Ws w (Live S Q (Xj [b])) v l:=fun v l hp=>by rw[t];exact hp
 have c0:X1 w S Q (Xj [b]):=by
  refine⟨fun i a e=> ?_,fun i i' x y e1 e2 _=> ?_,fun i a e d=>d.2 rfl,fun x d=>a0 x d.1⟩
  ·obtain⟨rfl,rfl⟩:=b9 i a e;have m:=s.RV id a U;unfold Wx at m⊢;rw[d3]at m⊢;simp only[ZC,if_false]at m⊢;obtain⟨C,c1,c2,c3⟩:=m;refine⟨C,c1,c2,fun j c L=>⟨(c3 j c L).1,fun k dl m=> ?_⟩⟩;obtain⟨v,v1,v2⟩:=(c3 j c L).2 k dl m;exact⟨v,v1,by
    obtain⟨l,rfl⟩:=Sy (ZH.1 Y c (Zh L)) dl (Zh m);exact XH.p _ _ (F _ _ (XH.Nj v2))⟩
  grind
 refine(c7 w S Q vs c0 (aR F U rfl rfl ho d c8)).mono fun e w' ⟨v,q,he,a8,T,M⟩=> ?_
 obtain⟨r,c4,_,_,a6⟩:=M.ids 0 b rfl;have :r=R:=by have :some R=some r:=c4;cases this;rfl
 subst this;obtain⟨m1,m2,m3⟩:=a6 b0;have d5:q 0=μ id:=m1;have I:Xj (r::G) (i+1)=some n:=hG;have hg:w.heap.size<=q (i+1):=by
  rcases M.keeps.live (q (i+1)) (.inr ⟨i+1,n,I,b5,rfl⟩)with d|d
  ·rw[t]at d;exfalso;by_cases e:q (i+1)=μ id
   ·have:=T.inj (i+1) 0 n r I rfl (e.trans d5.symm);omega
   ·exact T.Rl (i+1) n I ⟨d,e⟩
  ·exact d
 generalize c9:q (i+1)=g at hg;have d9:H.length≠id:=by omega
 have hH:Xj (H.set id r++[n])=fun y=>if y=H.length then some n else if y=id then some r else Xj H y:=by
  funext y;simp only[Xj,List.getElem?_append,Yi]
  grind
 rw[hH];have a5:∀i a,(fun y=>if y=H.length then some n else if y=id then some r else Xj H y) i=some a->(i=H.length/\a=n)\/(i≠H.length/\i=id/\a=r)\/(i≠H.length/\i≠id/\Xj H i=some a):=fun i a e=>by
  grind
 have W:∀x,Live O (fun y=>if y=H.length then g else μ y) (fun y=>if y=H.length then some n else if y=id then some r else Xj H y) x->S x\/x=q 0\/x=g:=by
  rintro x (d|⟨i,a,z,c5,rfl⟩)
  ·exact .inl ⟨.inl d,fun e=>s.Rl id b U (e▸d)⟩
  ·rcases a5 i a z with⟨rfl,rfl⟩|⟨B,rfl,rfl⟩|⟨B,A,z⟩
   ·grind
   ·grind
   ·simp only[B,if_false];exact .inl ⟨.inr ⟨i,a,z,c5,rfl⟩,fun e=>A (s.inj i id a b z U e)⟩
 have a9:∀x,Live O (fun y=>if y=H.length then g else μ y) (fun y=>if y=H.length then some n else if y=id then some r else Xj H y) x->Live S q (Xj (r::G)) x:=fun x d=>by
  rcases W x d with B|B|B
  ·exact .inl B
  ·exact .inr ⟨0,r,rfl,a4,B.symm⟩
  ·exact .inr ⟨i+1,n,I,b5,c9.trans B.symm⟩
 have D:∀k,k<w.heap.size->k≠μ id->w'.heap[k]? =w.heap[k]? :=fun k m A=>by
  by_cases hl:Live O μ (Xj H) k
  ·exact M.aK k ⟨hl,A⟩
  ·exact M.keeps.VS k m (by rw[t];exact hl)
 have E:WL O w μ (Xj H) w' (fun y=>if y=H.length then g else μ y) (fun y=>if y=H.length then some n else if y=id then some r else Xj H y):=by
  have A:∀i K,Xj H i=some K->i≠H.length:=fun i K e h=>by
   grind [Xj]
  refine⟨M.os,M.tape,M.output,⟨M.keeps.size,fun k m hn=>D k m fun e=>hn (e▸d0),fun k m=> ?_⟩,fun k m=>D k (s.lt k m) fun e=>s.Rl id b U (e▸m),fun i K z=> ?_,fun i K z _=>by grind⟩
  ·grind
  grind
 have b8:∀(j:Nat) (Z:Xx) (k:Nat),Xj (r::G) j=some Z->Z.mp=false->Z.ch.all Wi=true->(if k=H.length then g else μ k)=q j->Wx w' O (fun y=>if y=H.length then g else μ y) (fun y=>if y=H.length then some n else if y=id then some r else Xj H y) k Z:=fun j Z k L d2 d4 d1=>by
  have m:=T.RV j Z L;unfold Wx at m⊢;rw[d2]at m⊢;simp only[ZC,if_false]at m⊢;obtain⟨C,c1,c2,c3⟩:=m;refine⟨C,by rw[d1];exact c1,c2,fun j c L=>⟨(c3 j c L).1,fun k dl m=> ?_⟩⟩;obtain⟨v,v1,v2⟩:=(c3 j c L).2 k dl m;exact⟨v,v1,by
   obtain⟨l,rfl⟩:=Sy (ZH.1 d4 c (Zh L)) dl (Zh m);exact XH.p _ _ ((XH.Nj v2).u7 a9)⟩
 have a7:X1 w' O (fun y=>if y=H.length then g else μ y) (fun y=>if y=H.length then some n else if y=id then some r else Xj H y):=by
  have J:∀i a,(fun y=>if y=H.length then some n else if y=id then some r else Xj H y) i=some a->i≠H.length->∃c,Xj H i=some c:=fun i a e hn=>by
   grind
  refine⟨fun i K z=> ?_,fun i1 i2 x y d hy he=> ?_,fun i K z=> ?_,fun k m=>ZO (s.lt k m) M.keeps.size⟩
  ·rcases a5 i K z with⟨rfl,rfl⟩|⟨B,rfl,rfl⟩|⟨B,A,X⟩
   ·grind
   ·grind
   ·exact(s.RV i K X).mono E (by simp only[B,if_false];exact D _ (s.lt_size X) fun e2=>A (s.inj i id K b X U e2))
  ·by_cases e1:i1=H.length<;>by_cases e2:i2=H.length
   ·rw[e1,e2]
   ·obtain⟨c,V⟩:=J i2 y hy e2;have:=s.lt_size V
    grind
   ·obtain⟨c,V⟩:=J i1 x d e1;have:=s.lt_size V
    grind
   ·obtain⟨c,V⟩:=J i1 x d e1;obtain⟨c',c6⟩:=J i2 y hy e2;simp only[e1,e2,if_false]at he;exact s.inj i1 i2 c c' V c6 he
  ·by_cases e:i=H.length
   ·simp only[e,if_true];intro hO;have:=s.lt _ hO;omega
   ·obtain⟨c,V⟩:=J i K z e;simp only[e,if_false];exact s.Rl i c V
 refine⟨v,_,he,?_,a7,E⟩;have h3:XH w' S q (Xj (r::G)) v (.own (i+1) u 0 N):=a8;cases h3 with
 |own _ _ _ _ b4 g' o b7 a2 hv hl hs=>
  rw[I]at a2;cases a2;exact XH.own H.length u 0 N n g' o b7 (if_pos rfl) hv hl fun e=>by
   grind
theorem EU {E}{f}{Q:Prop}(hE:∀as H d I,E.heap f as H=some (d,I)->CH P f as H d I/\Q){Z}{H}{d}{I}(a:UL E f Z H=some (d,I)):CH P f Z H d I/\Q:=by
 unfold UL at a;split at a
 case h_2=>
  rename_i id XW a6 ho;cases s:Qr Z with
  |false=>simp[s]at a
  |true=>
  simp only[s,cond_true]at a;split at a
  ·rename_i b hb;cases F:(Nat.beq b.XW XW&& !b.mp&& !b.fz&&b.ch.all Wi)with
   |false=>grind
   |true=>
   rw[F,cond_true]at a;split at a
   ·rename_i i a7 D Y G hh;split at a
    ·rename_i x hG;cases q:(Nat.beq Y.XW b.XW&& !Y.fz&& !Y.mp&&Y.ch.all Wi&& !x.fz&& !x.mp&&x.ch.all Wi)with
     |false=>grind
     |true=>
     rw[q,cond_true]at a;simp only[Zb,Zq]at a;obtain⟨rfl,rfl⟩:=a;simp only[Zs,Yq]at F q
     grind [BG,Zl]
    ·simp at a
   ·simp at a
  ·simp at a
 cases hc:Z.all RC with
 |false=>simp[hc]at a
 |true=>
 simp only[hc,cond_true]at a;split at a
 ·rename_i i XW D G hh;split at a
  ·rename_i b hb;cases F:(!b.fz&& !b.mp&&b.ch.all Wi)with
   |false=>grind
   |true=>
   rw[F,cond_true]at a;simp only[Zb,Zq]at a;obtain⟨rfl,rfl⟩:=a;simp only[Zs,Yq]at F;obtain⟨⟨R,a4⟩,B⟩:=F;obtain⟨a2,hq⟩:=hE _ _ _ _ hh;refine⟨fun w O μ vs hI a3=> ?_,hq⟩;have L:∀x,Live O μ (Xj H) x->x<w.heap.size:=by
    intro x s;rcases s with s|⟨i,J,hi,_,rfl⟩
    ·exact hI.lt x s
    ·exact hI.lt_size hi
   have U:Xj ([]:V')=h0:=by funext x;rfl
   have r:Live (Live O μ (Xj H)) μ0 (Xj [])=Live O μ (Xj H):=by grind [T5]
   have a1:X1 w (Live O μ (Xj H)) μ0 (Xj []):=by
    rw[U];exact⟨(fun _ _ e=>by cases e),(fun _ _ _ _ e=>by cases e),(fun _ _ e=>by cases e),L⟩
   refine(a2 w (Live O μ (Xj H)) μ0 vs a1 (N1 (fun v l hp=>by rw[r];exact hp) hc a3)).mono fun e X ⟨v,h,he,V,K,y⟩=> ?_
   have N:∀k,k<w.heap.size->X.heap[k]? =w.heap[k]? :=fun k u=>by
    by_cases hl:Live O μ (Xj H) k
    ·exact y.aK k hl
    ·exact y.keeps.VS k u (by rw[r];exact hl)
   have m:Xj G i=some b:=hb;have a8:¬Live O μ (Xj H) (h i):=K.Rl i b m;have t:w.heap.size<=h i:=by
    rcases y.keeps.live (h i) (.inr ⟨i,b,m,R,rfl⟩)with s|s
    ·simp_all [absurd]
    ·exact s
   have A:Xj H H.length=none:=by simp[Xj]
   obtain⟨z,T⟩:=qZ (w':=X) (n:=H.length) hI A b t y.keeps.size N y.os y.tape y.output;have hH:Xj (H++[b])=fun x=>if x=H.length then some b else Xj H x:=by
    grind [Xj]
   rw[hH];have W:∀x,Live O (fun id=>if id=H.length then h i else μ id) (fun x=>if x=H.length then some b else Xj H x) x->Live (Live O μ (Xj H)) h (Xj G) x:=by
    rintro x (s|⟨id,J,S,hf,rfl⟩)
    ·exact .inl (.inl s)
    ·by_cases e:id=H.length
     ·simp only[e,if_true];exact .inr ⟨i,b,m,R,rfl⟩
     ·simp only[e,if_false]at S⊢;exact .inl (.inr ⟨id,J,S,hf,rfl⟩)
   have a5:Wx X O (fun id=>if id=H.length then h i else μ id) (fun x=>if x=H.length then some b else Xj H x) H.length b:=by
    have u:=K.RV i b m;unfold Wx at u⊢;rw[a4]at u⊢;simp only[ZC,if_false,if_true]at u⊢;obtain⟨C,c1,c2,c3⟩:=u;refine⟨C,c1,c2,fun j c hj=>⟨(c3 j c hj).1,fun k dl u=> ?_⟩⟩;obtain⟨v,v1,v2⟩:=(c3 j c hj).2 k dl u;refine⟨v,v1,?_⟩;obtain⟨l,rfl⟩:=Sy (ZH.1 B c (Zh hj)) dl (Zh u);exact XH.p _ _ (Ws.u7 W (XH.Nj v2))
   refine⟨v,_,he,?_,T a5,z⟩;have h3:XH X (Live O μ (Xj H)) h (Xj G) v (.own i XW 0 D):=V;cases h3 with
   |own _ _ _ _ b2 g o a0 M hv hl hs=>
    rw[m]at M;cases M;exact XH.own H.length XW 0 D b g o a0 (if_pos rfl) hv hl fun e=>by
     grind
  ·simp at a
 ·simp at a
theorem B6 (E:Xa)(f:Nat)(hE:∀B r,E.pure f B=some r->CC P f B r)(hV:∀as H d H',E.heap f as H=some (d,H')->CH P f as H d H')(Q:List Value)(C:X')(A:XE (XF w O μ h) Q C)(r:Vk)(q:VL E h f C=some r)(y:X1 w O μ h):
  Calls P f Q.toArray w fun e R=>∃v,e=.returned v/\XF R O μ (rz h n r) v r.val/\X1 R O μ (rz h n r)/\WL O w μ h R μ (rz h n r):=by
 unfold VL at q;split at q
 ·cases Z:Xw (XX h) C with
  |none=>simp[Z]at q
  |some B=>
  simp only[Z]at q;cases t:E.pure f B with
  |none=>simp[t]at q
  |some pr=>
  simp only[t]at q;have U:=hE B pr t;generalize a0:C.flatMap (Rj h)=ids at q;have k:∀id∈ids,∃b,h id=some b:=by
   grind [PE]
  let L:BS:=fun b=>Live O μ h b/\¬∃id∈ids,μ id=b
  have Y:∀b,L b->b<w.heap.size:=by
   intro b u;rcases u.1 with h1|⟨id,RV,o,_,rfl⟩
   ·exact y.lt b h1
   ·exact y.lt_size o
  have z:XE (fun v p=>XF w L μ0 h0 v (inj p)) Q B:=by
   obtain⟨I,F⟩:=TS Z;refine XE.Uq (by rw[A.length,I]) fun i v p hv t=> ?_
   obtain⟨d,hd,W⟩:=F i p t;obtain⟨v',M,m⟩:=A.get i d hd;rw[hv]at M;cases M;refine R8 y L (fun b u=>u.1) d p v m W fun id o hL=>hL.2 ⟨id,?_,rfl⟩
   grind
  refine(U w L Q Y z).mono fun e R ⟨v,D,m,a⟩=>⟨v,D,?_⟩
  cases g:(ids.isEmpty||pr.scalar)with
  |true=>
   rw[g,cond_true,Zb]at q;subst q;obtain⟨j,s⟩:=Tr y a.size a.block a.os a.tape a.output;refine⟨?_,s,j⟩;rw[Bool.or_eq_true]at g;rcases g with h1|h1
   ·have J:ids=[]:=by simpa using h1
    refine eQ (fun v l t=> ?_) m;rw[T5]at t;refine t.u7 fun b u=>⟨u,?_⟩
    rw[J];simp
   grind [w9]
  |false=>
   rw[g,cond_false,Zb]at q;subst q;have K:rz h n ⟨inj pr,[],ids.filterMap (fun id=>(h id).map fun b=>(id,{b with fz:=true})),ids⟩=Cl h ids:=by
    show SC h _=_;rw[mW ids h h (fun x b u=>⟨b,u,rfl⟩) k];rfl
   rw[K];obtain⟨j,s⟩:=eY y ids a.size a.block a.os a.tape a.output;refine⟨?_,s,j⟩;refine eQ (fun v l t=> ?_) m;rw[T5]at t;refine t.u7 fun b u=> ?_
   rcases u with h1|⟨id,RV,o,hf,rfl⟩
   ·refine⟨.inl h1,fun⟨id,o,D⟩=> ?_⟩;obtain⟨c,S⟩:=k id o;exact y.Rl id c S (D▸h1)
   ·obtain⟨c,S,_,_,_,_,_,X⟩:=ao o;obtain⟨V,a1⟩:=X hf;refine⟨.inr ⟨id,c,S,V,rfl⟩,fun⟨N,G,D⟩=> ?_⟩;obtain⟨c2,T⟩:=k N G;have:=y.inj N id c2 c T S D
    grind
 ·simp at q
 ·exact(B5 (n:=n) E f hV Q C A r q y).mono fun e R h=>h
end
