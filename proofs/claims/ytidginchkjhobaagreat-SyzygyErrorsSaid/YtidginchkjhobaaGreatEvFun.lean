/- Functions: from the interpreter's run of a body to a contract. -/
import Derived.Test.YtidginchkjhobaaGreatEvCode
namespace Go.Ev
open Go.RowKit
section
variable {lo:Nat}{P:Program}{O:BS}{w:World}{μ:Nat->Nat}{h:HF}
def Ur:List DV->Nat->List (Nat×DV)
 |[],_=>[]
 |v::vs,i=>(i,v)::Ur vs (i+1)
theorem Oj {b:Type}:∀(a:List DV) (i:Nat) (k:List (Nat×DV)->b),uy a i k=k (Ur a i)
 |[],_,_=>rfl
 |v::a,i,k=>by simp only[uy,Ur];rw[Oj a]
theorem gd:∀(a:List DV) (i t:Nat) (d:DV),Xh (Ur a i) t=some d->i<=t/\a[t-i]? =some d
 |[],_,_,_,h=>by simp[Ur,Xh]at h
 |v::a,i,t,d,h=>by
  simp only[Ur,Ux]at h;by_cases e:i=t
  ·subst e;rw[if_pos rfl]at h;cases h;exact⟨Zh _,by simp⟩
  ·rw[if_neg e]at h;obtain⟨c,b⟩:=gd a (i+1) t d h;refine⟨by omega,?_⟩;rw[show t-i=(t-(i+1))+1 by omega];simpa using b
theorem cG {b:Nat}{a:List Value}{args:List DV}(e:lo<=w.heap.size)(k:args.length<=b)(i:XF (XB w O μ h) a args):
  Wu lo b O w μ h {tmps:=a.toArray++Array.replicate (b-a.toArray.size) undef,defers:=[]} (Ur args 0):=by
 have m:=i.length;refine⟨⟨e,.nil,fun d c=>by simp at c⟩,by simp;omega,fun t d c=> ?_⟩;obtain⟨_,g⟩:=gd args 0 t d c;simp only[Nat.sub_zero]at g;obtain⟨v,j,l⟩:=i.get t d g;have f:t<a.length:=(Zb.1 j).1;have :({tmps:=a.toArray++Array.replicate (b-a.toArray.size) undef,defers:=[]}:Act).tmps.getD t undef=v:=by
  rw[ZN,Array.getElem?_append_left (by simpa using f)];simp[j]
 rw[this];exact l
theorem A8 {R:Nat}{a:Act}{s:St}(L:X0 w O μ (Xn s.H))(y:Wu lo R O w μ (Xn s.H) a s.T)(J:ResultVar)(x:Nat×Option (Bool×Nat))(n:Rj P J=some x)(d:DV)(j:WA s x=some d):
  ∃v,(match J with
   | .tmp t=>(pure (a.tmps.getD t undef):Sem Value)
   | .cell q t=>do loadVar t (<-asAddr (a.tmps.getD q undef))).run P w=.ok v w/\XB w O μ (Xn s.H) v d:=by
 cases J with
 |tmp t=>
  simp only[Rj,Za]at n;subst n;exact⟨_,by simp,y.slot t d j⟩
 |cell q t=>
  simp only[Rj]at n;split at n<;>simp only[Za,reduceCtorEq]at n;rename_i A U B G;subst n;simp only[WA]at j;split at j
  ·rename_i id XX i k Q;split at j
   ·rename_i b M;obtain⟨f,j⟩:=X3 j;rw[Zs]at f;have z:=Zl f.1;have E:b.mp=false:=by simpa using f.2
    split at j
    ·rename_i c N;obtain⟨K,I,rfl⟩:=WN G;obtain⟨S,g,o,e,r,_,F⟩:=(y.slot q _ Q).Q6;have p:Xn s.H id=some b:=M;rw[p]at r;cases r;obtain⟨rfl,rfl⟩:=F z.symm;have m:Ti A K.size (c.drop k)=some d:=by
      unfold Ti;cases A with
      |true=>
       simp only[cond_true]at j⊢;obtain⟨D,rfl⟩:=Xv j;have:=WS D;have C:Nat.ble K.size (c.drop k).length=true:=by rw[Nat.ble_eq];simp;omega
       rw[C];rfl
      |false=>simpa using j
     obtain⟨v,l,u⟩:=bM (P:=P) (w:=w) (O:=O) (μ:=μ) (h:=Xn s.H) t K A B I (μ id) (i*b.sz+k) (c.drop k) (Of L p E N k) d m;refine⟨v,?_,u⟩;show(do loadVar t (<-asAddr (a.tmps.getD q undef)):Sem Value).run P w=_;rw[e];simp only[asAddr,Sem.run_bind,Sem.run_pure,Result.andThen_ok];simp only[Instr.loadAt,Instr.sureAddr,Sem.run_bind,Sem.run_pure,Result.andThen_ok]at l;exact l
    ·simp at j
   ·simp at j
  ·simp at j
theorem sX {z:Nat}{a:Act}{s:St}(o:X0 w O μ (Xn s.H))(c:Wu lo z O w μ (Xn s.H) a s.T):∀(b:List ResultVar) (g:List (Nat×Option (Bool×Nat))) (e:List DV),Xt (Rj P) b=some g->Xt (WA s) g=some e->
  ∃f:List Value,(List.mapM (fun m=>match m with
   |ResultVar.tmp t=>(pure (a.tmps.getD t undef):Sem Value)
   |ResultVar.cell q t=>do loadVar t (<-asAddr (a.tmps.getD q undef))) b).run P w=.ok f w/\XF (XB w O μ (Xn s.H)) f e
 |[],g,e,h1,h2=>by rw[dF h1]at h2;rw[dF h2];exact⟨[],by simp,.nil⟩
 |m::b,g,e,h1,h2=>by
  obtain⟨x,n,y,l,rfl⟩:=map_cons h1;obtain⟨d,h,p,i,rfl⟩:=map_cons h2;obtain⟨v,u,r⟩:=A8 o c m x y d p;obtain⟨f,k,j⟩:=sX o c b n h l i;refine⟨v::f,?_,.cons r j⟩;rw[List.mapM_cons,Sem.run_bind,u];simp only[Result.andThen_ok,Sem.run_bind,k,Sem.run_pure]
def tB:List Value->Value
 |[v]=>v
 |vs=>.tuple vs.toArray
theorem nr {n:Nat}{a:Act}{s:St}(i:Func)(m:X0 w O μ (Xn s.H))(d:Wu lo n O w μ (Xn s.H) a s.T)(j:List (Nat×Option (Bool×Nat)))(g:List DV)(k:Xt (Rj P) i.results.toList=some j)(l:Xt (WA s) j=some g):
  ∃b:List Value,(results i a.tmps).run P w=.ok (tB b) w/\XF (XB w O μ (Xn s.H)) b g:=by
 obtain⟨b,e,c⟩:=sX m d _ _ _ k l;refine⟨b,?_,c⟩;unfold results;rw[Sem.run_bind,Array.mapM_eq_mapM_toList,Sem.run_map];refine Eq.trans (congrArg (fun r:Result (List Value)=>(r.andThen fun a f=>Result.ok a.toArray f).andThen fun(a:Array Value) f=>Sem.run P (pure (if h:a.size=1 then a[0]else Value.tuple a)) f) e) ?_
 match b with
 |[]=>rfl
 |[v]=>rfl
 |v::u::r=>rfl
structure QK (P:Program)(f:Nat)(xf:Vb):Prop where
 ok : ∃ fn c, P.funcs[f]? = some fn /\ fn.body = some c /\ (fn.name == "runtime.NumGoroutine") = false /\ fn.ntmps = xf.ntmps /\ XN P fn.ntmps c = some xf.body.erase /\ Xt (Rj P) fn.results.toList = some xf.results
theorem Q4 {nt:Nat}{i:World}{a:Nat->Nat}{c:HF}{fn:Func}{s:St}(f:X0 i O a c)(u:List (Nat×Option (Bool×Nat)))(q:List DV)(z:Xt (Rj P) fn.results.toList=some u)(A:Xt (WA s) u=some q)(R:Ending->World->Prop)(tmps:Array Value)
  (F:∀k l,X0 l O μ (Xn s.H)->XF (XB l O μ (Xn s.H)) k q->WD O i a c l μ (Xn s.H)->R (.returned (tB k)) l):∀(j:List Deferred) (w:World),X0 w O μ (Xn s.H)->Wu i.heap.size nt O w μ (Xn s.H) {tmps:=tmps,defers:=j} s.T->WD O i a c w μ (Xn s.H)->
   LeavesInM Fence.wide 0 P fn tmps R j .returning w
 |[],w,hI,hsl,hm=>by
  obtain⟨k,p,o⟩:=nr (P:=P) fn hI hsl _ _ z A;exact⟨_,p,F k w hI o hm⟩
 |d::j,w,hI,hsl,hm=>by
  obtain⟨D,C,m,B,L⟩:=hsl.jR.2.2 d (Ze ..);have g:=Zv.1 hsl.jR.2.1;have b:iK (.deferred (some [])):=⟨(fun _ _ _ h=>by cases h),(fun _ _ h=>by cases h)⟩;have r:=UJ B b (o':=.deferred none) ⟨(fun _ _ _ h=>by cases h),(fun _ _ h=>by cases h)⟩;refine⟨by simp,.inl ⟨D,_,by rw[C];rfl,run_takeDeferred B,Q4 (nt:=nt) f u q z A R tmps F j _ (hI.same r) ?_ (TB f hm m _)⟩⟩;refine⟨⟨Zy hsl.jR.1 r.size,g.2,fun e E=> ?_⟩,hsl.sz,fun t x M=>(hsl.slot t x M).same r⟩;obtain⟨v,y,I,J,K⟩:=hsl.jR.2.2 e (Zc _ E);refine⟨v,y,I,?_,K⟩;have n:v≠D:=fun G=>g.1 e E (by rw[C,y,G])
  rw[World.putObj_heap_other n];exact J
theorem gL (E:Xa)(Q:Wq P E)(N:Oo P E)(K:Nat){f:Nat}{k:Vb}(U:QK P f k)(args:List DV)(H:List Xz)(u:List DV)(s:St)(a:Sp E K k args H=some (u,s))
  (o:List Value) (D:X0 w O μ (Xn H)) (S:XF (XB w O μ (Xn H)) o args) (R:Ending->World->Prop)
  (V:∀v b g,X0 b O g (Xn s.H)->XF (XB b O g (Xn s.H)) v u->WD O w μ (Xn H) b g (Xn s.H)->R (.returned (tB v)) b):Calls P f o.toArray w R:=by
 obtain⟨l,c,z,T,_,A,m,r⟩:=U.ok;unfold Sp at a;rw[Oj]at a;cases e:Nat.ble args.length k.ntmps with
 |false=>rw[e]at a;simp at a
 |true=>
 rw[e,cond_true]at a;have e:=WS e;refine(callsIn_wide (n:=0)).1 (callsIn_of_wp_marks z T trivial ?_);have B:Wu w.heap.size l.ntmps O w μ (Xn H) {tmps:=o.toArray++Array.replicate (l.ntmps-o.toArray.size) undef,defers:=[]} (Ur args 0):=cG (Zh _) (by rw[A];exact e) S;cases d:XG E K 0 k.body ⟨Ur args 0,H⟩with
 |none=>simp[d]at a
 |some q=>
 obtain⟨x,t⟩:=q;have p:Xt (WA t) k.results=some u->t=s->(∀i b,LeavesInM Fence.wide 0 P l i.tmps R i.defers .returning b->bodyPostM Fence.wide 0 P l R (BV x) i b)->c.wpIn Fence.wide 0 P (bodyPostM Fence.wide 0 P l R) {tmps:=o.toArray++Array.replicate (l.ntmps-o.toArray.size) undef,defers:=[]} w:=by
  intro j W y;subst W;refine Qw E Q N K 0 l.ntmps k.body O Fence.wide 0 w.heap.size (.inl rfl) (.inl rfl) c m ⟨Ur args 0,H⟩ x t d _ w μ D B _ fun i b g J L M=>y i b ?_
  exact Q4 (nt:=l.ntmps) D k.results u r j R i.tmps (fun v X F G I=>V v X g F G I) i.defers b J L M
 cases x with
 |exit id=>simp[d]at a
 |normal=>
  simp only[d]at a;cases j:Xt (WA t) k.results with
  |none=>simp[j]at a
  |some C=>
   simp only[j,Za,Zo]at a;obtain⟨rfl,rfl⟩:=a;exact p j rfl fun i b h=>h
 |ret=>
  simp only[d]at a;cases j:Xt (WA t) k.results with
  |none=>simp[j]at a
  |some C=>
   simp only[j,Za,Zo]at a;obtain⟨rfl,rfl⟩:=a;exact p j rfl fun i b h=>h
theorem QK.EZ {f:Nat}{g:Vb}(d:QK P f g):mz P f:=by
 obtain⟨h,c,a,b,e,_⟩:=d.ok;exact cg a e b
theorem ny {L:BS}{v:Value}{p:PV}(b:∀a,p≠.XZ a)(r:XB w L μ0 h0 v (inj p)):VJ w L μ0 h0 v (lM p):=by
 cases p with
 |one l=>exact r
 |agg c=>exact r
 |XZ a=>exact absurd rfl (b a)
theorem gh {d:DV}{p:PV}(a:XY h d=some p):∀b,p≠.XZ b:=by
 intro b e;subst e;cases d with
 |one l=>simp only[XY]at a;split at a<;>simp at a
 |agg c=>simp only[XY]at a;split at a<;>simp at a
 |XZ f=>simp[XY]at a
theorem nN (A:X0 w O μ h)(L:BS)(B:∀b,L b->Live O μ h b)(r:∀id b,h id=some b->¬L (μ id))(f:List Value)(v:List DV)(e:List PV)(t:XF (XB w O μ h) f v)(E:Xt (XY h) v=some e):
  XB w L μ0 h0 (tB f) (inj (cM e)):=by
 obtain⟨k,j⟩:=Td E;have c:∀(i:Nat) (u:Value) (p:PV),f[i]? =some u->e[i]? =some p->XB w L μ0 h0 u (inj p)/\∀G,p≠.XZ G:=by
  intro i u p s l;obtain⟨d,D,g⟩:=j i p l;obtain⟨H,m,F⟩:=t.get i d D;rw[s]at m;cases m;refine⟨aw A L B d p u F g fun id q=> ?_,gh g⟩;obtain⟨b,C⟩:=bS d id q;exact r id b C
 have n:f.length=e.length:=by rw[t.length,k]
 have a:XB w L μ0 h0 (.tuple f.toArray) (inj (.XZ e)):=by
  refine⟨f,rfl,XF.VS (by simpa using n) fun i u y s o=> ?_⟩;rw[ZA]at o;cases l:e[i]? with
  |none=>simp[l]at o
  |some p=>
   simp only[l,Z4,Za]at o;subst o;obtain⟨x,z⟩:=c i u p s l;exact ny z x
 match f,e,n with
 |[],[],_=>exact a
 |[u],[p],_=>exact(c 0 u p rfl rfl).1
 |u::u2::ur,p::p2::pr,_=>exact a
theorem gZ:Xn []=h0:=by funext x;simp[Xn,h0]
theorem yu (E:Xa)(I:Wq P E)(G:Oo P E)(K:Nat){f:Nat}{z:Vb}(B:QK P f z)(h:List PV)(r:PV)(e:Ug E K z h=some r):CC P f h r/\mz P f:=by
 refine⟨fun w L D o c=> ?_,B.EZ⟩;unfold Ug at e;cases a:Sp E K z (h.map inj) []with
 |none=>simp[a]at e
 |some q=>
 obtain⟨x,s⟩:=q;simp only[a]at e;cases t:Xt (XY (Xn s.H)) x with
 |none=>simp[t]at e
 |some Q=>
 simp only[t,Za]at e;subst e;have n:X0 w L μ0 (Xn []):=by
  rw[gZ];exact⟨fun id b a=>by simp[h0]at a,fun id N b T a=>by simp[h0]at a,fun id b a=>by simp[h0]at a,o⟩
 have d:XF (XB w L μ0 (Xn [])) D (h.map inj):=by
  rw[gZ];refine XF.VS (by simpa using c.length) fun i v y M m=> ?_
  rw[ZA]at m;cases u:h[i]? with
  |none=>simp[u]at m
  |some p=>
   simp only[u,Z4,Za]at m;subst m;obtain⟨U,l,e⟩:=c.get i p u;rw[M]at l;cases l;exact e
 refine gL (O:=L) E I G K B (h.map inj) [] x s a D n d _ fun R V S A F g=>⟨_,rfl,nN A L (fun b a=>.inl a) (fun id b a=>A.Nt id b a) R x Q F t,?_⟩
 refine⟨g.os,g.tape,g.output,g.keeps.size,fun k J=> ?_⟩;by_cases j:L k
 ·exact g.jn k j
 ·refine g.keeps.VW k J fun C=> ?_
  rw[gZ,RX]at C;exact j C
theorem zm (E:Xa)(D:Wq P E)(C:Oo P E)(K:Nat){f:Nat}{t:Vb}(x:QK P f t)(args:List DV)(H:List Xz)(d:DV)(v:List Xz)(e:Uh E K t args H=some (d,v)):CH P f args H d v/\mz P f:=by
 refine⟨fun w O μ I F c=> ?_,x.EZ⟩;unfold Uh at e;cases m:Sp E K t args H with
 |none=>simp[m]at e
 |some q=>
 obtain⟨o,s⟩:=q;simp only[m]at e;obtain⟨n,g⟩:=Xv e;simp only[Zo]at g;obtain⟨rfl,rfl⟩:=g;refine gL (O:=O) E D C K x args H o s m I F c _ fun p J k A b B=>⟨_,k,rfl,?_,A,B⟩
 have a:XB J O k (Xn s.H) (.tuple p.toArray) (.XZ o):=by
  refine⟨p,rfl,XF.VS b.length fun i u y G z=> ?_⟩;obtain⟨N,j,e⟩:=b.get i y z;rw[G]at j;cases j;have:=ZW.1 n y (Zn z);cases y with
  |one l=>exact e
  |agg L=>exact e
  |XZ M=>simp[DV.plain]at this
 match p,o,b with
 |[],[],_=>exact a
 |[u],[r],b=>cases b with |cons h _=>exact h
 |u::u2::ur,r::r2::rr,_=>exact a
 |[],_::_,b=>cases b
 |_::_,[],b=>cases b
 |[_],_::_::_,b=>cases b with |cons _ h=>cases h
 |_::_::_,[_],b=>cases b with |cons _ h=>cases h
end
end Go.Ev
namespace Go.Ev
def ins (x:Nat):List Nat->List Nat
 |[]=>[x]
 |y::l=>bif Nat.blt x y then x::y::l else bif Nat.beq x y then y::l else y::ins x l
def xp (a b:List Nat):List Nat:=a.foldr ins b
def rem (x:Nat):List Nat->List Nat
 |[]=>[]
 |y::l=>bif Nat.beq x y then rem x l else y::rem x l
def look:List (Nat×List Nat)->Nat->List Nat
 |[],_=>[]
 |(j,l)::e,i=>bif Nat.beq i j then l else look e i
def Xw.use (o:Xw)(l:List Nat):List Nat:=xp o.tmps (match o.dst with |some d=>rem d l|none=>l)
def XH.n:XH->Nat
 | .region _ ops=>ops.length
 | .seq a b=>a.n+b.n
 | .cond _ a b=>a.n+b.n
 | .block _ c=>c.n
 | .loop c=>c.n
 | .scope c=>c.n
 | .Pt _ _ a b=>a.n+b.n
 |_=>0
def XH.leaf:XH->Bool
 | .skip=>true
 | .ret=>true
 | .exit _=>true
 | .region _ _=>true
 |_=>false
def XH.li:XH->List Nat->List (Nat×List Nat)->List Nat
 | .region _ ops,o,_=>ops.foldr Xw.use o
 | .seq a b,o,e=>a.li (b.li o e) e
 | .cond c a b,o,e=>xp c.tmp (xp (a.li o e) (b.li o e))
 | .block i c,o,e=>c.li o ((i+1,o)::e)
 | .loop c,_,e=>c.li [] e
 | .scope c,o,e=>c.li o e
 | .exit i,_,e=>look e (i+1)
 | .ret,_,e=>look e 0
 | .Pt f vs a b,o,e=>xp f.tmp (xp (vs.foldr rem (a.li (b.li o e) e)) o)
 |_,o,_=>o
def F4:aT->Bool
 | .store _=>true
 | .append _ _ _=>true
 | .clear _=>true
 | .mapUpdate _ _ _ _=>true
 | .copy _=>true
 |_=>false
def qh:Nat->List Xw->List Xw×List Xw
 |_,[]=>([],[])
 |i,o::os=>bif TK i (o::os)then([],o::os)else(o::(qh (i+1) os).1,(qh (i+1) os).2)
def C8 (ops:List Xw):XH:=
 bif Nat.blt 1 (ops.filter fun o=>F4 o.op).length&& !(qh 0 ops).2.isEmpty then .Rb (qh 0 ops).1 (qh 0 ops).2 else .region true ops
def XH.an:XH->List Nat->List (Nat×List Nat)->XH
 | .region d ops,_,_=>bif d then C8 ops else .region d ops
 | .seq a b,o,e=>.seq (a.an (b.li o e) e) (bif Nat.blt 6 a.n&& !b.leaf then .VW (b.li o e) (b.an o e)else b.an o e)
 | .cond c a b,o,e=>.cond c (a.an o e) (b.an o e)
 | .block i c,o,e=>.block i (c.an o ((i+1,o)::e))
 | .loop c,_,e=>.loop (.VW (c.li [] e) (c.an (c.li [] e) e))
 | .scope c,o,e=>.scope (c.an o e)
 | .Pt f vs a b,o,e=>.Pt f vs (.VW (xp vs (xp (vs.foldr rem (a.li (b.li o e) e)) o)) (a.an (b.li (xp (vs.foldr rem (a.li (b.li o e) e)) o) e) e)) (b.an (xp (vs.foldr rem (a.li (b.li o e) e)) o) e)
 |c,_,_=>c
def XH.k:XH->Nat
 | .seq a b=>a.k+b.k
 | .cond _ a b=>a.k+b.k
 | .block _ c=>c.k
 | .VW _ c=>c.k
 | .scope c=>c.k
 | .Pt _ _ a b=>a.k+b.k
 | .loop c=>c.k+1
 |_=>0
def inl (s:List XH)(j:Nat):XH->XH
 | .VW ks _=>.VW ks (s.getD j .skip)
 |c=>c
def XH.nm (s:List XH):XH->Nat->XH
 | .seq a b,i=>.seq (a.nm s i) (b.nm s (i+a.k))
 | .cond c a b,i=>.cond c (a.nm s i) (b.nm s (i+a.k))
 | .block j c,i=>.block j (c.nm s i)
 | .VW ks c,i=>.VW ks (c.nm s i)
 | .scope c,i=>.scope (c.nm s i)
 | .Pt f vs a b,i=>.Pt f vs (a.nm s i) (b.nm s (i+a.k))
 | .loop c,i=>.loop (inl s (i+c.k) c)
 |c,_=>c
def Gl:XH->XH
 | .VW _ c=>c
 |c=>c
def XH.lo (s:List XH):XH->Nat->Nat->XH
 | .seq a b,i,j=>bif Nat.blt j (i+a.k)then a.lo s i j else b.lo s (i+a.k) j
 | .cond _ a b,i,j=>bif Nat.blt j (i+a.k)then a.lo s i j else b.lo s (i+a.k) j
 | .block _ c,i,j=>c.lo s i j
 | .VW _ c,i,j=>c.lo s i j
 | .scope c,i,j=>c.lo s i j
 | .Pt _ _ a b,i,j=>bif Nat.blt j (i+a.k)then a.lo s i j else b.lo s (i+a.k) j
 | .loop c,i,j=>bif Nat.beq j (i+c.k)then Gl (c.nm s i)else c.lo s i j
 |_,_,_=>.skip
def Vb.an (x:Vb):Vb:=⟨x.ntmps,x.results,x.body.an (xp (x.results.map (·.1)) []) [(0,xp (x.results.map (·.1)) [])]⟩
def oc (P:Program)(fn:Func):Option Vb:=(o9 P fn).map Vb.an
theorem sN:∀(i:Nat) (l:List Xw),(qh i l).1++(qh i l).2=l/\TK (i+(qh i l).1.length) (qh i l).2=true
 |_,[]=>⟨rfl,rfl⟩
 |i,o::os=>by
  obtain⟨a,b⟩:=sN (i+1) os;unfold qh;cases h:TK i (o::os)with
  |true=>exact⟨rfl,h⟩
  |false=>
   simp only[cond_false];exact⟨by simp[a],by rw[Zi,show i+((qh (i+1) os).1.length+1)=i+1+(qh (i+1) os).1.length by omega];exact b⟩
theorem qN (a:List Xw):(C8 a).erase=.region true a:=by
 obtain⟨c,b⟩:=sN 0 a;unfold C8;cases d:(Nat.blt 1 (a.filter fun o=>F4 o.op).length&& !(qh 0 a).2.isEmpty)with
 |true=>
  rw[Z8]at b;simp only[cond_true,XH.erase,b,c]
 |false=>rfl
theorem Tj:∀(c:XH) (o:List Nat) (e:List (Nat×List Nat)),(c.an o e).erase=c.erase
 | .region d ops,_,_=>by
   cases d with
   |true=>exact qN ops
   |false=>rfl
 | .seq a b,o,e=>by
   simp only[XH.an,XH.erase,Tj a];cases(Nat.blt 6 a.n&& !b.leaf)<;>simp only[cond_true,cond_false,XH.erase,Tj b]
 | .cond c a b,o,e=>by simp only[XH.an,XH.erase,Tj a,Tj b]
 | .block i c,o,e=>by simp only[XH.an,XH.erase,Tj c]
 | .loop c,o,e=>by simp only[XH.an,XH.erase,Tj c]
 | .scope c,o,e=>by simp only[XH.an,XH.erase,Tj c]
 | .Pt f vs a b,o,e=>by simp only[XH.an,XH.erase,Tj a,Tj b]
 | .skip,_,_=>rfl
 | .Rb _ _,_,_=>rfl
 | .VW _ _,_,_=>rfl
 | .exit _,_,_=>rfl
 | .ret,_,_=>rfl
theorem rZ {P:Program}{k:Nat}:∀(c:Code) (x:XH),XN P k c=some x->x.erase=x:=by
 intro c;induction c with
 |skip=>intro x h;cases h;rfl
 |exit _=>intro x h;cases h;rfl
 |ret=>intro x h;cases h;rfl
 |label _=>intro x h;cases h;rfl
 |goto _=>intro x h;cases h
 |refuse _=>intro x h;cases h
 |region i l d=>
  intro x h;simp only[XN]at h;split at h
  ·cases d with
   |true=>
    simp only[if_true]at h;split at h<;>cases h;rfl
   |false=>cases h;rfl
  ·cases h
 |seq a b e g=>
  intro x h;simp only[XN]at h;split at h<;>cases h;simp only[XH.erase,e _ ‹_›,g _ ‹_›]
 |cond c a b e g=>
  intro x h;simp only[XN]at h;split at h<;>cases h;simp only[XH.erase,e _ ‹_›,g _ ‹_›]
 |block i c j=>
  intro x h;simp only[XN]at h;split at h<;>cases h;simp only[XH.erase,j _ ‹_›]
 |loop c j=>
  intro x h;simp only[XN]at h;split at h<;>cases h;simp only[XH.erase,j _ ‹_›]
 |scope c j=>
  intro x h;simp only[XN]at h;split at h<;>cases h;simp only[XH.erase,j _ ‹_›]
 |rangeFunc f m a b e g=>
  intro x h;simp only[XN]at h;split at h
  ·split at h<;>cases h;simp only[XH.erase,e _ ‹_›,g _ ‹_›]
  ·cases h
theorem okF {P:Program}{f:Nat}{x:Vb}(h:(P.funcs[f]?).bind (oc P)=some x):QK P f x:=by
 obtain⟨g,i,d⟩:=Option.bind_eq_some_iff.1 h;unfold oc at d;obtain⟨y,a,rfl⟩:=Option.map_eq_some_iff.1 d;unfold o9 at a;split at a
 ·cases a
 ·rename_i l;split at a
  ·rename_i c k;split at a
   ·rename_i b m e j;cases a;exact⟨⟨g,c,i,k,by simpa using l,rfl,by rw[e];exact congrArg some ((rZ c b e).symm.trans (Tj b _ _).symm),j⟩⟩
   ·cases a
  ·cases a
end Go.Ev
