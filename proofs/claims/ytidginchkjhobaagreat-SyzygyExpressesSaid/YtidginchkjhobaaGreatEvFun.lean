/- Functions: from the interpreter's run of a body to a contract. -/
import Derived.Test.YtidginchkjhobaaGreatEvCode
namespace Go.Ev
open Go.RowKit
section
variable {lo:Nat}{P:Program}{O:BS}{w:World}{μ:Nat->Nat}{h:HF}
def U9:X'->Nat->List (Nat×DV)
 |[],_=>[]
 |v::vs,i=>(i,v)::U9 vs (i+1)
theorem NF {b:Type}:∀a i (k:List (Nat×DV)->b),zL a i k=k (U9 a i)
 |[],_,_=>rfl
 |v::a,i,k=>by simp only[zL,U9];rw[NF a]
theorem kE:∀a i t d,Xi (U9 a i) t=some d->i<=t/\a[t-i]? =some d
 |[],_,_,_,h=>by simp[U9,Xi]at h
 |v::a,i,t,d,h=>by
  simp only[U9,U2]at h;by_cases e:i=t
  ·grind
  ·rw[if_neg e]at h;obtain⟨b,c⟩:=kE a (i+1) t d h
   grind
theorem fK {b}{a}{args}(e:lo<=w.heap.size)(i:args.length<=b)(g:XE (XF w O μ h) a args):
  WM lo b O w μ h {tmps:=a.toArray++Array.replicate (b-a.toArray.size) undef,defers:=[]} (U9 args 0):=by
 have m:=g.length;refine⟨⟨e,.nil,fun d c=>by simp at c⟩,by simp;omega,fun t d c=> ?_⟩;obtain⟨_,f⟩:=kE args 0 t d c;simp only[Nat.sub_zero]at f;obtain⟨v,l,k⟩:=g.get t d f;have j:t<a.length:=(Zg.1 l).1;have :({tmps:=a.toArray++Array.replicate (b-a.toArray.size) undef,defers:=[]}:Act).tmps.getD t undef=v:=by
  simp_all [Array.getElem?_append_left]
 rw[this];exact k
theorem GN {Q}{a}{s}(J:X1 w O μ (Xj s.H))(r:WM lo Q O w μ (Xj s.H) a s.T)(E:ResultVar)(x:Nat×Option (Bool×Nat))(m:Qb P E=some x)(d)(j:WV s x=some d):
  ∃v,(match E with
   | .tmp t=>(pure (a.tmps.getD t undef):Sem Value)
   | .cell q t=>do loadVar t (<-asAddr (a.tmps.getD q undef))).run P w=.ok v w/\XF w O μ (Xj s.H) v d:=by
 cases E with
 |tmp t=>
  simp only[Qb,Zb]at m;subst m;exact⟨_,by simp,r.slot t d j⟩
 |cell q t=>
  simp only[Qb]at m;split at m<;>simp only[Zb,reduceCtorEq]at m;rename_i y S z C;subst m;simp only[WV]at j;split at j
  ·rename_i id XW i k N;split at j
   ·rename_i b K;obtain⟨f,j⟩:=Wq j;rw[Zs]at f;have u:=Zl f.1;have A:b.mp=false:=by simpa using f.2
    split at j
    ·rename_i c L;obtain⟨I,D,rfl⟩:=W7 C;obtain⟨R,g,o,e,p,_,B⟩:=(r.slot q _ N).Ou;have n:Xj s.H id=some b:=K;rw[n]at p;cases p;obtain⟨rfl,rfl⟩:=B u.symm;have l:Sr y I.size (c.drop k)=some d:=by
      unfold Sr;cases y with
      |true=>
       simp only[cond_true]at j⊢;obtain⟨M,rfl⟩:=X4 j
       grind [Nat.ble_eq]
      |false=>simpa using j
     obtain⟨v,G,F⟩:=eH (P:=P) (w:=w) (O:=O) (μ:=μ) (h:=Xj s.H) t I y z D (μ id) (i*b.sz+k) (c.drop k) (NA J n A L k) d l
     grind [asAddr,Instr.loadAt,Instr.sureAddr]
    ·simp at j
   ·simp at j
  ·simp at j
theorem yv {y}{a}{s}(n:X1 w O μ (Xj s.H))(c:WM lo y O w μ (Xj s.H) a s.T):∀(b:List ResultVar) (g:List (Nat×Option (Bool×Nat))) e,Xw (Qb P) b=some g->Xw (WV s) g=some e->
  ∃f:List Value,(List.mapM (fun l=>match l with
   |ResultVar.tmp t=>(pure (a.tmps.getD t undef):Sem Value)
   |ResultVar.cell q t=>do loadVar t (<-asAddr (a.tmps.getD q undef))) b).run P w=.ok f w/\XE (XF w O μ (Xj s.H)) f e
 |[],g,e,h1,h2=>by rw[jU h1]at h2;rw[jU h2];exact⟨[],by simp,.nil⟩
 |l::b,g,e,h1,h2=>by
  obtain⟨x,m,u,k,rfl⟩:=map_cons h1;obtain⟨d,h,o,i,rfl⟩:=map_cons h2;obtain⟨v,z,p⟩:=GN n c l x u d o;obtain⟨f,r,j⟩:=yv n c b m h k i;refine⟨v::f,?_,.cons p j⟩
  grind [Sem.run_bind,Result.andThen_ok,Sem.run_pure]
def yK:List Value->Value
 |[v]=>v
 |vs=>.tuple vs.toArray
theorem sR {n}{a}{s}(i:Func)(m:X1 w O μ (Xj s.H))(d:WM lo n O w μ (Xj s.H) a s.T)(j:List (Nat×Option (Bool×Nat)))(g)(k:Xw (Qb P) i.results.toList=some j)(l:Xw (WV s) j=some g):
  ∃b:List Value,(results i a.tmps).run P w=.ok (yK b) w/\XE (XF w O μ (Xj s.H)) b g:=by
 obtain⟨b,e,c⟩:=yv m d _ _ _ k l;refine⟨b,?_,c⟩;unfold results;rw[Sem.run_bind,Array.mapM_eq_mapM_toList,Sem.run_map];refine Eq.trans (congrArg (fun r:Result (List Value)=>(r.andThen fun a f=>Result.ok a.toArray f).andThen fun(a:Array Value) f=>Sem.run P (pure (if h:a.size=1 then a[0]else Value.tuple a)) f) e) ?_
 match b with
 |[]=>rfl
 |[v]=>rfl
 |v::u::r=>rfl
structure PY (P:Program)(f:Nat)(xf:Vu):Prop where
 ok : ∃ fn c, P.funcs[f]? = some fn /\ fn.body = some c /\ (fn.name == "runtime.NumGoroutine") = false /\ fn.ntmps = xf.ntmps /\ XS P fn.ntmps c = some xf.body.erase /\ Xw (Qb P) fn.results.toList = some xf.results
theorem Ot {nt}{g}{a}{c}{fn:Func}{s}(f:X1 g O a c)(r:List (Nat×Option (Bool×Nat)))(p)(u:Xw (Qb P) fn.results.toList=some r)(v:Xw (WV s) r=some p)(R:Ending->World->Prop)(tmps)
  (z:∀j k,X1 k O μ (Xj s.H)->XE (XF k O μ (Xj s.H)) j p->WL O g a c k μ (Xj s.H)->R (.returned (yK j)) k):∀(i:List Deferred) w,X1 w O μ (Xj s.H)->WM g.heap.size nt O w μ (Xj s.H) {tmps:=tmps,defers:=i} s.T->WL O g a c w μ (Xj s.H)->
   LeavesInM Fence.wide 0 P fn tmps R i .returning w
 |[],w,hI,hsl,hm=>by
  obtain⟨j,o,n⟩:=sR (P:=P) fn hI hsl _ _ u v;exact⟨_,o,z j w hI n hm⟩
 |d::i,w,hI,hsl,hm=>by
  obtain⟨D,A,l,y,C⟩:=hsl.oy.2.2 d (Zc ..);have m:=Zu.1 hsl.oy.2.1;have b:mO (.deferred (some [])):=⟨(fun _ _ _ h=>by cases h),(fun _ _ h=>by cases h)⟩;have q:=Ti y b (o':=.deferred none) ⟨(fun _ _ _ h=>by cases h),(fun _ _ h=>by cases h)⟩;refine⟨by simp,.inl ⟨D,_,by rw[A];rfl,run_takeDeferred y,Ot (nt:=nt) f r p u v R tmps z i _ (hI.same q) ?_ (Sn f hm l _)⟩⟩;refine⟨⟨Zy hsl.oy.1 q.size,m.2,fun e B=> ?_⟩,hsl.sz,fun t x E=>(hsl.slot t x E).same q⟩;obtain⟨F,G,I,J,K⟩:=hsl.oy.2.2 e (Za _ B)
  grind [World.putObj_heap_other]
theorem lE (E)(hE:WI P E)(N:NL P E)(K){f}{k}(T:PY P f k)(args)(H)(u)(s)(a:QB E K k args H=some (u,s))
  (o) (D:X1 w O μ (Xj H)) (Q:XE (XF w O μ (Xj H)) o args) (R:Ending->World->Prop)
  (U:∀v b e,X1 b O e (Xj s.H)->XE (XF b O e (Xj s.H)) v u->WL O w μ (Xj H) b e (Xj s.H)->R (.returned (yK v)) b):Calls P f o.toArray w R:=by
 obtain⟨l,c,z,S,_,A,m,r⟩:=T.ok;unfold QB at a;rw[NF]at a;cases i:Nat.ble args.length k.ntmps with
 |false=>grind
 |true=>
 rw[i,cond_true]at a;have i:=Vp i;refine(callsIn_wide (n:=0)).1 (callsIn_of_wp_marks z S trivial ?_);have B:WM w.heap.size l.ntmps O w μ (Xj H) {tmps:=o.toArray++Array.replicate (l.ntmps-o.toArray.size) undef,defers:=[]} (U9 args 0):=fK (Zf _) (by rw[A];exact i) Q;cases d:XP E K 0 k.body ⟨U9 args 0,H⟩with
 |none=>simp[d]at a
 |some q=>
 obtain⟨x,t⟩:=q;have p:Xw (WV t) k.results=some u->t=s->(∀g b,LeavesInM Fence.wide 0 P l g.tmps R g.defers .returning b->bodyPostM Fence.wide 0 P l R (HG x) g b)->c.wpIn Fence.wide 0 P (bodyPostM Fence.wide 0 P l R) {tmps:=o.toArray++Array.replicate (l.ntmps-o.toArray.size) undef,defers:=[]} w:=by
  intro j V y;subst V;refine PI E hE N K 0 l.ntmps k.body O Fence.wide 0 w.heap.size (.inl rfl) (.inl rfl) c m ⟨U9 args 0,H⟩ x t d _ w μ D B _ fun g b e J L M=>y g b ?_
  exact Ot (nt:=l.ntmps) D k.results u r j R g.tmps (fun v W F G I=>U v W e F G I) g.defers b J L M
 cases x with
 |exit id=>simp[d]at a
 |normal=>
  simp only[d]at a;cases j:Xw (WV t) k.results with
  |none=>simp[j]at a
  |some C=>
   simp only[j,Zb,Zq]at a;obtain⟨rfl,rfl⟩:=a;exact p j rfl fun g b h=>h
 |ret=>
  simp only[d]at a;cases j:Xw (WV t) k.results with
  |none=>simp[j]at a
  |some C=>
   simp only[j,Zb,Zq]at a;obtain⟨rfl,rfl⟩:=a;exact p j rfl fun g b h=>h
theorem PY.LO {f}{g}(d:PY P f g):rH P f:=by
 obtain⟨h,c,a,b,e,_⟩:=d.ok;exact fp a e b
theorem sW {L}{v}{p}(b:∀a,p≠.Wd a)(r:XF w L μ0 h0 v (inj p)):Ua w L μ0 h0 v (qv p):=by
 cases p with
 |one l=>exact r
 |agg c=>exact r
 |Wd a=>exact absurd rfl (b a)
theorem kF {d}{p}(b:XX h d=some p):∀a,p≠.Wd a:=by
 intro a e;subst e;cases d with
 |one l=>grind [XX]
 |agg c=>grind [XX]
 |Wd f=>simp[XX]at b
theorem tB (z:X1 w O μ h)(L)(A:∀b,L b->Live O μ h b)(r:∀id b,h id=some b->¬L (μ id))(c)(m)(e)(l:XE (XF w O μ h) c m)(q:Xw (XX h) m=some e):
  XF w L μ0 h0 (yK c) (inj (fT e)):=by
 obtain⟨j,g⟩:=TS q;have f:∀(i:Nat) (u:Value) (p:PV),c[i]? =some u->e[i]? =some p->XF w L μ0 h0 u (inj p)/\∀x,p≠.Wd x:=by
  intro i u p t s;obtain⟨d,n,o⟩:=g i p s;obtain⟨D,v,B⟩:=l.get i d n
  grind [R8,kF,PE]
 have k:c.length=e.length:=by rw[l.length,j]
 have a:XF w L μ0 h0 (.tuple c.toArray) (inj (.Wd e)):=by
  refine⟨c,rfl,XE.Uq (by simpa using k) fun i u y t C=> ?_⟩
  grind [sW]
 match c,e,k with
 |[],[],_=>exact a
 |[u],[p],_=>exact(f 0 u p rfl rfl).1
 |u::u2::ur,p::p2::pr,_=>exact a
theorem lV:Xj []=h0:=by grind [Xj,h0]
theorem DE (E)(hE:WI P E)(D:NL P E)(K){f}{x}(A:PY P f x)(h)(r)(e:UN E K x h=some r):CC P f h r/\rH P f:=by
 refine⟨fun w L B n c=> ?_,A.LO⟩;unfold UN at e;cases a:QB E K x (h.map inj) []with
 |none=>simp[a]at e
 |some q=>
 obtain⟨u,s⟩:=q;simp only[a]at e;cases o:Xw (XX (Xj s.H)) u with
 |none=>simp[o]at e
 |some J=>
 simp only[o,Zb]at e;subst e;have l:X1 w L μ0 (Xj []):=by
  rw[lV];exact⟨fun id b a=>by simp[h0]at a,fun id I b Q a=>by simp[h0]at a,fun id b a=>by simp[h0]at a,n⟩
 have d:XE (XF w L μ0 (Xj [])) B (h.map inj):=by
  rw[lV];refine XE.Uq (by simpa using c.length) fun i v y S j=> ?_
  rw[ZR]at j;cases t:h[i]? with
  |none=>simp[t]at j
  |some p=>
   simp only[t,Ym,Zb]at j;subst j;obtain⟨T,G,e⟩:=c.get i p t
   grind
 refine lE (O:=L) E hE D K A (h.map inj) [] u s a B l d _ fun M U N z C g=>⟨_,rfl,tB z L (fun b a=>.inl a) (fun id b a=>z.Rl id b a) M u J C o,?_⟩
 refine⟨g.os,g.tape,g.output,g.keeps.size,fun k F=> ?_⟩;by_cases m:L k
 ·exact g.aK k m
 ·refine g.keeps.VS k F fun R=> ?_
  simp_all [lV,T5]
theorem EB (E)(hE:WI P E)(C:NL P E)(K){f}{t}(x:PY P f t)(args)(H)(d)(v)(e:VN E K t args H=some (d,v)):CH P f args H d v/\rH P f:=by
 refine⟨fun w O μ G D c=> ?_,x.LO⟩;unfold VN at e;cases m:QB E K t args H with
 |none=>simp[m]at e
 |some q=>
 obtain⟨o,s⟩:=q;simp only[m]at e;obtain⟨n,g⟩:=X4 e;simp only[Zq]at g;obtain⟨rfl,rfl⟩:=g;refine lE (O:=O) E hE C K x args H o s m G D c _ fun p I k A b B=>⟨_,k,rfl,?_,A,B⟩
 have a:XF I O k (Xj s.H) (.tuple p.toArray) (.Wd o):=by
  refine⟨p,rfl,XE.Uq b.length fun i u y F z=> ?_⟩;obtain⟨M,j,e⟩:=b.get i y z;rw[F]at j;cases j;have:=ZH.1 n y (Zh z);cases y with
  |one l=>exact e
  |agg J=>exact e
  |Wd L=>simp[DV.plain]at this
 match p,o,b with
 |[],[],_=>exact a
 |[u],[r],b=>cases b with |cons h _=>exact h
 |u::u2::ur,r::r2::rr,_=>exact a
 |[],_::_,b=>cases b
 |_::_,[],b=>cases b
 |[_],_::_::_,b=>cases b with |cons _ h=>cases h
 |_::_::_,[_],b=>cases b with |cons _ h=>cases h
end
def LA (x:Nat):P'->P'
 |[]=>[x]
 |y::l=>bif Nat.blt x y then x::y::l else bif Nat.beq x y then y::l else y::LA x l
def CB (a b:P'):P':=a.foldr LA b
def rem (x:Nat):P'->P'
 |[]=>[]
 |y::l=>bif Nat.beq x y then rem x l else y::rem x l
def Ej:List (Nat×P')->Nat->P'
 |[],_=>[]
 |(j,l)::e,i=>bif Nat.beq i j then l else Ej e i
def Xz.use (o:Xz)(l:P'):P':=CB o.tmps (match o.dst with |some d=>rem d l|none=>l)
def XN.n:XN->Nat
 | .region _ ops=>ops.length
 | .seq a b=>a.n+b.n
 | .cond _ a b=>a.n+b.n
 | .block _ c=>c.n
 | .loop c=>c.n
 | .scope c=>c.n
 | .OJ _ _ a b=>a.n+b.n
 |_=>0
def XN.leaf:XN->Bool
 | .skip=>true
 | .ret=>true
 | .exit _=>true
 | .region _ _=>true
 |_=>false
def XN.li:XN->P'->List (Nat×P')->P'
 | .region _ ops,o,_=>ops.foldr Xz.use o
 | .seq a b,o,e=>a.li (b.li o e) e
 | .cond c a b,o,e=>CB c.tmp (CB (a.li o e) (b.li o e))
 | .block i c,o,e=>c.li o ((i+1,o)::e)
 | .loop c,_,e=>c.li [] e
 | .scope c,o,e=>c.li o e
 | .exit i,_,e=>Ej e (i+1)
 | .ret,_,e=>Ej e 0
 | .OJ f vs a b,o,e=>CB f.tmp (CB (vs.foldr rem (a.li (b.li o e) e)) o)
 |_,o,_=>o
def YN:dK->Bool
 | .store _=>true
 | .append _ _ _=>true
 | .clear _=>true
 | .mapUpdate _ _ _ _=>true
 | .copy _=>true
 |_=>false
def rB:Nat->O'->O'×O'
 |_,[]=>([],[])
 |i,o::os=>bif SE i (o::os)then([],o::os)else(o::(rB (i+1) os).1,(rB (i+1) os).2)
def JC:O'->Bool
 |[]=>false
 |[_]=>false
 |o::os=>(match o.op with | .call f=>Nat.beq f 27|_=>false)||JC os
def Jf (ops:O'):XN:=
 bif(Nat.blt 1 (ops.filter fun o=>YN o.op).length||JC ops)&& !(rB 0 ops).2.isEmpty then .R2 (rB 0 ops).1 (rB 0 ops).2 else .region true ops
def XN.an:XN->P'->List (Nat×P')->XN
 | .region d ops,_,_=>bif d then Jf ops else .region d ops
 | .seq a b,o,e=>.seq (a.an (b.li o e) e) (bif Nat.blt 6 a.n&& !b.leaf then .VS (b.li o e) (b.an o e)else b.an o e)
 | .cond c a b,o,e=>.cond c (a.an o e) (b.an o e)
 | .block i c,o,e=>.block i (c.an o ((i+1,o)::e))
 | .loop c,_,e=>.loop (.VS (c.li [] e) (c.an (c.li [] e) e))
 | .scope c,o,e=>.scope (c.an o e)
 | .OJ f vs a b,o,e=>.OJ f vs (.VS (CB vs (CB (vs.foldr rem (a.li (b.li o e) e)) o)) (a.an (b.li (CB (vs.foldr rem (a.li (b.li o e) e)) o) e) e)) (b.an (CB (vs.foldr rem (a.li (b.li o e) e)) o) e)
 |c,_,_=>c
def XN.k:XN->Nat
 | .seq a b=>a.k+b.k
 | .cond _ a b=>a.k+b.k
 | .block _ c=>c.k
 | .VS _ c=>c.k
 | .scope c=>c.k
 | .OJ _ _ a b=>a.k+b.k
 | .loop c=>c.k+1
 |_=>0
def inl (s:List XN)(j:Nat):XN->XN
 | .VS ks _=>.VS ks (s.getD j .skip)
 |c=>c
def XN.nm (s:List XN):XN->Nat->XN
 | .seq a b,i=>.seq (a.nm s i) (b.nm s (i+a.k))
 | .cond c a b,i=>.cond c (a.nm s i) (b.nm s (i+a.k))
 | .block j c,i=>.block j (c.nm s i)
 | .VS ks c,i=>.VS ks (c.nm s i)
 | .scope c,i=>.scope (c.nm s i)
 | .OJ f vs a b,i=>.OJ f vs (a.nm s i) (b.nm s (i+a.k))
 | .loop c,i=>.loop (inl s (i+c.k) c)
 |c,_=>c
def Y4:XN->XN
 | .VS _ c=>c
 |c=>c
def XN.lo (s:List XN):XN->Nat->Nat->XN
 | .seq a b,i,j=>bif Nat.blt j (i+a.k)then a.lo s i j else b.lo s (i+a.k) j
 | .cond _ a b,i,j=>bif Nat.blt j (i+a.k)then a.lo s i j else b.lo s (i+a.k) j
 | .block _ c,i,j=>c.lo s i j
 | .VS _ c,i,j=>c.lo s i j
 | .scope c,i,j=>c.lo s i j
 | .OJ _ _ a b,i,j=>bif Nat.blt j (i+a.k)then a.lo s i j else b.lo s (i+a.k) j
 | .loop c,i,j=>bif Nat.beq j (i+c.k)then Y4 (c.nm s i)else c.lo s i j
 |_,_,_=>.skip
def Vu.an (x:Vu):Vu:=⟨x.ntmps,x.results,x.body.an (CB (x.results.map (·.1)) []) [(0,CB (x.results.map (·.1)) [])]⟩
def tO (P:Program)(fn:Func):Option Vu:=(uR P fn).map Vu.an
theorem yk:∀i l,(rB i l).1++(rB i l).2=l/\SE (i+(rB i l).1.length) (rB i l).2=true
 |_,[]=>⟨rfl,rfl⟩
 |i,o::os=>by
  obtain⟨a,b⟩:=yk (i+1) os;unfold rB;cases h:SE i (o::os)with
  |true=>exact⟨rfl,h⟩
  |false=>
   simp only[cond_false];exact⟨by simp[a],by rw[Zj,show i+((rB (i+1) os).1.length+1)=i+1+(rB (i+1) os).1.length by omega];exact b⟩
theorem wg (a):(Jf a).erase=.region true a:=by
 obtain⟨c,b⟩:=yk 0 a;unfold Jf;cases d:((Nat.blt 1 (a.filter fun o=>YN o.op).length||JC a)&& !(rB 0 a).2.isEmpty)with
 |true=>
  rw[Yb]at b;simp only[cond_true,XN.erase,b,c]
 |false=>rfl
theorem TX:∀(c:XN) (o:P') (e:List (Nat×P')),(c.an o e).erase=c.erase
 | .region d ops,_,_=>by
   cases d with
   |true=>exact wg ops
   |false=>rfl
 | .seq a b,o,e=>by
   simp only[XN.an,XN.erase,TX a];cases(Nat.blt 6 a.n&& !b.leaf)<;>simp only[cond_true,cond_false,XN.erase,TX b]
 | .cond c a b,o,e=>by simp only[XN.an,XN.erase,TX a,TX b]
 | .block i c,o,e=>by simp only[XN.an,XN.erase,TX c]
 | .loop c,o,e=>by simp only[XN.an,XN.erase,TX c]
 | .scope c,o,e=>by simp only[XN.an,XN.erase,TX c]
 | .OJ f vs a b,o,e=>by simp only[XN.an,XN.erase,TX a,TX b]
 | .skip,_,_=>rfl
 | .R2 _ _,_,_=>rfl
 | .VS _ _,_,_=>rfl
 | .exit _,_,_=>rfl
 | .ret,_,_=>rfl
theorem xJ {P}{k}:∀c x,XS P k c=some x->x.erase=x:=by
 intro c;induction c with
 |skip=>intro x h;cases h;rfl
 |exit _=>intro x h;cases h;rfl
 |ret=>intro x h;cases h;rfl
 |label _=>intro x h;cases h;rfl
 |goto _=>intro x h;cases h
 |refuse _=>intro x h;cases h
 |region i l d=>
  intro x h;simp only[XS]at h;split at h
  ·cases d with
   |true=>
    simp only[if_true]at h;split at h<;>cases h;rfl
   |false=>cases h;rfl
  ·cases h
 |seq a b e g=>
  intro x h;simp only[XS]at h;split at h<;>cases h;simp only[XN.erase,e _ ‹_›,g _ ‹_›]
 |cond c a b e g=>
  intro x h;simp only[XS]at h;split at h<;>cases h;simp only[XN.erase,e _ ‹_›,g _ ‹_›]
 |block i c j=>
  intro x h;simp only[XS]at h;split at h<;>cases h;simp only[XN.erase,j _ ‹_›]
 |loop c j=>
  intro x h;simp only[XS]at h;split at h<;>cases h;simp only[XN.erase,j _ ‹_›]
 |scope c j=>
  intro x h;simp only[XS]at h;split at h<;>cases h;simp only[XN.erase,j _ ‹_›]
 |rangeFunc f m a b e g=>
  intro x h;simp only[XS]at h;split at h
  ·split at h<;>cases h;simp only[XN.erase,e _ ‹_›,g _ ‹_›]
  ·cases h
theorem okF {P:Program}{f:Nat}{x:Vu}(h:(P.funcs[f]?).bind (tO P)=some x):PY P f x:=by
 obtain⟨g,i,d⟩:=Option.bind_eq_some_iff.1 h;unfold tO at d;obtain⟨y,a,rfl⟩:=Option.map_eq_some_iff.1 d;unfold uR at a;split at a
 ·cases a
 ·rename_i l;split at a
  ·rename_i c k;split at a
   ·rename_i b m e j;cases a;exact⟨⟨g,c,i,k,by simpa using l,rfl,by rw[e];exact congrArg some ((xJ c b e).symm.trans (TX b _ _).symm),j⟩⟩
   ·cases a
  ·cases a
