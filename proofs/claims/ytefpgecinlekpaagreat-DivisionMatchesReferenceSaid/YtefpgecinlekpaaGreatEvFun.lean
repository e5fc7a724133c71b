/- Functions: from the interpreter's run of a body to a contract. -/
import Derived.Test.YtefpgecinlekpaaGreatEvCode
namespace Go.Ev
open Go.RowKit
section
variable {lo:Nat}{P:Program}{O:BS}{w:World}{μ:Nat->Nat}{h:HF}
def Ur:List DV->Nat->List (Nat×DV)
 |[],_=>[]
 |v::vs,i=>(i,v)::Ur vs (i+1)
theorem Oy {b:Type}:∀(a:List DV) (i:Nat) (k:List (Nat×DV)->b),uf a i k=k (Ur a i)
 |[],_,_=>rfl
 |v::a,i,k=>by simp only[uf,Ur];rw[Oy a]
theorem ga:∀(a:List DV) (i t:Nat) (d:DV),Xh (Ur a i) t=some d->i<=t/\a[t-i]? =some d
 |[],_,_,_,h=>by simp[Ur,Xh]at h
 |v::a,i,t,d,h=>by
  simp only[Ur,Uv]at h;by_cases e:i=t
  ·subst e;rw[if_pos rfl]at h;cases h;exact⟨Zh _,by simp⟩
  ·rw[if_neg e]at h;obtain⟨c,b⟩:=ga a (i+1) t d h;refine⟨by omega,?_⟩;rw[show t-i=(t-(i+1))+1 by omega];simpa using b
theorem cD {b:Nat}{a:List Value}{args:List DV}(e:lo<=w.heap.size)(k:args.length<=b)(i:XF (XC w O μ h) a args):
  Ww lo b O w μ h {tmps:=a.toArray++Array.replicate (b-a.toArray.size) undef,defers:=[]} (Ur args 0):=by
 have m:=i.length;refine⟨⟨e,.nil,fun d c=>by simp at c⟩,by simp;omega,fun t d c=> ?_⟩;obtain⟨_,g⟩:=ga args 0 t d c;simp only[Nat.sub_zero]at g;obtain⟨v,j,l⟩:=i.get t d g;have f:t<a.length:=(Zd.1 j).1;have :({tmps:=a.toArray++Array.replicate (b-a.toArray.size) undef,defers:=[]}:Act).tmps.getD t undef=v:=by
  rw[ZL,Array.getElem?_append_left (by simpa using f)];simp[j]
 rw[this];exact l
theorem Bi {R:Nat}{a:Act}{s:St}(L:X4 w O μ (Xl s.H))(y:Ww lo R O w μ (Xl s.H) a s.T)(J:ResultVar)(x:Nat×Option (Bool×Nat))(n:Ro P J=some x)(d:DV)(j:WC s x=some d):
  ∃v,(match J with
   | .tmp t=>(pure (a.tmps.getD t undef):Sem Value)
   | .cell q t=>do loadVar t (<-asAddr (a.tmps.getD q undef))).run P w=.ok v w/\XC w O μ (Xl s.H) v d:=by
 cases J with
 |tmp t=>
  simp only[Ro,Za]at n;subst n;exact⟨_,by simp,y.slot t d j⟩
 |cell q t=>
  simp only[Ro]at n;split at n<;>simp only[Za,reduceCtorEq]at n;rename_i A U B G;subst n;simp only[WC]at j;split at j
  ·rename_i id XZ i k Q;split at j
   ·rename_i b M;obtain⟨f,j⟩:=XX j;rw[Zp]at f;have z:=Zm f.1;have E:b.mp=false:=by simpa using f.2
    split at j
    ·rename_i c N;obtain⟨K,I,rfl⟩:=WM G;obtain⟨S,g,o,e,r,_,F⟩:=(y.slot q _ Q).Pq;have p:Xl s.H id=some b:=M;rw[p]at r;cases r;obtain⟨rfl,rfl⟩:=F z.symm;have m:TC A K.size (c.drop k)=some d:=by
      unfold TC;cases A with
      |true=>
       simp only[cond_true]at j⊢;obtain⟨D,rfl⟩:=Xw j;have:=WS D;have C:Nat.ble K.size (c.drop k).length=true:=by rw[Nat.ble_eq];simp;omega
       rw[C];rfl
      |false=>simpa using j
     obtain⟨v,l,u⟩:=bL (P:=P) (w:=w) (O:=O) (μ:=μ) (h:=Xl s.H) t K A B I (μ id) (i*b.sz+k) (c.drop k) (Ow L p E N k) d m;refine⟨v,?_,u⟩;show(do loadVar t (<-asAddr (a.tmps.getD q undef)):Sem Value).run P w=_;rw[e];simp only[asAddr,Sem.run_bind,Sem.run_pure,Result.andThen_ok];simp only[Instr.loadAt,Instr.sureAddr,Sem.run_bind,Sem.run_pure,Result.andThen_ok]at l;exact l
    ·simp at j
   ·simp at j
  ·simp at j
theorem sG {z:Nat}{a:Act}{s:St}(o:X4 w O μ (Xl s.H))(c:Ww lo z O w μ (Xl s.H) a s.T):∀(b:List ResultVar) (g:List (Nat×Option (Bool×Nat))) (e:List DV),Xt (Ro P) b=some g->Xt (WC s) g=some e->
  ∃f:List Value,(List.mapM (fun m=>match m with
   |ResultVar.tmp t=>(pure (a.tmps.getD t undef):Sem Value)
   |ResultVar.cell q t=>do loadVar t (<-asAddr (a.tmps.getD q undef))) b).run P w=.ok f w/\XF (XC w O μ (Xl s.H)) f e
 |[],g,e,h1,h2=>by rw[dE h1]at h2;rw[dE h2];exact⟨[],by simp,.nil⟩
 |m::b,g,e,h1,h2=>by
  obtain⟨x,n,y,l,rfl⟩:=map_cons h1;obtain⟨d,h,p,i,rfl⟩:=map_cons h2;obtain⟨v,u,r⟩:=Bi o c m x y d p;obtain⟨f,k,j⟩:=sG o c b n h l i;refine⟨v::f,?_,.cons r j⟩;rw[List.mapM_cons,Sem.run_bind,u];simp only[Result.andThen_ok,Sem.run_bind,k,Sem.run_pure]
def sU:List Value->Value
 |[v]=>v
 |vs=>.tuple vs.toArray
theorem ni {n:Nat}{a:Act}{s:St}(i:Func)(m:X4 w O μ (Xl s.H))(d:Ww lo n O w μ (Xl s.H) a s.T)(j:List (Nat×Option (Bool×Nat)))(g:List DV)(k:Xt (Ro P) i.results.toList=some j)(l:Xt (WC s) j=some g):
  ∃b:List Value,(results i a.tmps).run P w=.ok (sU b) w/\XF (XC w O μ (Xl s.H)) b g:=by
 obtain⟨b,e,c⟩:=sG m d _ _ _ k l;refine⟨b,?_,c⟩;unfold results;rw[Sem.run_bind,Array.mapM_eq_mapM_toList,Sem.run_map];refine Eq.trans (congrArg (fun r:Result (List Value)=>(r.andThen fun a f=>Result.ok a.toArray f).andThen fun(a:Array Value) f=>Sem.run P (pure (if h:a.size=1 then a[0]else Value.tuple a)) f) e) ?_
 match b with
 |[]=>rfl
 |[v]=>rfl
 |v::u::r=>rfl
structure QZ (P:Program)(f:Nat)(xf:W4):Prop where
 ok : ∃ fn c, P.funcs[f]? = some fn /\ fn.body = some c /\ (fn.name == "runtime.NumGoroutine") = false /\ fn.ntmps = xf.ntmps /\ XO P fn.ntmps c = some xf.body.erase /\ Xt (Ro P) fn.results.toList = some xf.results
theorem Po {nt:Nat}{i:World}{a:Nat->Nat}{c:HF}{fn:Func}{s:St}(f:X4 i O a c)(u:List (Nat×Option (Bool×Nat)))(q:List DV)(z:Xt (Ro P) fn.results.toList=some u)(A:Xt (WC s) u=some q)(R:Ending->World->Prop)(tmps:Array Value)
  (F:∀k l,X4 l O μ (Xl s.H)->XF (XC l O μ (Xl s.H)) k q->Wo O i a c l μ (Xl s.H)->R (.returned (sU k)) l):∀(j:List Deferred) (w:World),X4 w O μ (Xl s.H)->Ww i.heap.size nt O w μ (Xl s.H) {tmps:=tmps,defers:=j} s.T->Wo O i a c w μ (Xl s.H)->
   LeavesInM Fence.wide 0 P fn tmps R j .returning w
 |[],w,hI,hsl,hm=>by
  obtain⟨k,p,o⟩:=ni (P:=P) fn hI hsl _ _ z A;exact⟨_,p,F k w hI o hm⟩
 |d::j,w,hI,hsl,hm=>by
  obtain⟨D,C,m,B,L⟩:=hsl.jV.2.2 d (Ze ..);have g:=Zr.1 hsl.jV.2.1;have b:iK (.deferred (some [])):=⟨(fun _ _ _ h=>by cases h),(fun _ _ h=>by cases h)⟩;have r:=UJ B b (o':=.deferred none) ⟨(fun _ _ _ h=>by cases h),(fun _ _ h=>by cases h)⟩;refine⟨by simp,.inl ⟨D,_,by rw[C];rfl,run_takeDeferred B,Po (nt:=nt) f u q z A R tmps F j _ (hI.same r) ?_ (TB f hm m _)⟩⟩;refine⟨⟨ZD hsl.jV.1 r.size,g.2,fun e E=> ?_⟩,hsl.sz,fun t x M=>(hsl.slot t x M).same r⟩;obtain⟨v,y,I,J,K⟩:=hsl.jV.2.2 e (Zc _ E);refine⟨v,y,I,?_,K⟩;have n:v≠D:=fun G=>g.1 e E (by rw[C,y,G])
  rw[World.putObj_heap_other n];exact J
theorem gL (E:Xb)(Q:Wu P E)(N:OC P E)(K:Nat){f:Nat}{k:W4}(U:QZ P f k)(args:List DV)(H:List Xz)(u:List DV)(s:St)(a:Sv E K k args H=some (u,s))
  (o:List Value) (D:X4 w O μ (Xl H)) (S:XF (XC w O μ (Xl H)) o args) (R:Ending->World->Prop)
  (V:∀v b g,X4 b O g (Xl s.H)->XF (XC b O g (Xl s.H)) v u->Wo O w μ (Xl H) b g (Xl s.H)->R (.returned (sU v)) b):Calls P f o.toArray w R:=by
 obtain⟨l,c,z,T,_,A,m,r⟩:=U.ok;unfold Sv at a;rw[Oy]at a;cases e:Nat.ble args.length k.ntmps with
 |false=>rw[e]at a;simp at a
 |true=>
 rw[e,cond_true]at a;have e:=WS e;refine(callsIn_wide (n:=0)).1 (callsIn_of_wp_marks z T trivial ?_);have B:Ww w.heap.size l.ntmps O w μ (Xl H) {tmps:=o.toArray++Array.replicate (l.ntmps-o.toArray.size) undef,defers:=[]} (Ur args 0):=cD (Zh _) (by rw[A];exact e) S;cases d:XD E K 0 k.body ⟨Ur args 0,H⟩with
 |none=>simp[d]at a
 |some q=>
 obtain⟨x,t⟩:=q;have p:Xt (WC t) k.results=some u->t=s->(∀i b,LeavesInM Fence.wide 0 P l i.tmps R i.defers .returning b->bodyPostM Fence.wide 0 P l R (Ca x) i b)->c.wpIn Fence.wide 0 P (bodyPostM Fence.wide 0 P l R) {tmps:=o.toArray++Array.replicate (l.ntmps-o.toArray.size) undef,defers:=[]} w:=by
  intro j W y;subst W;refine QO E Q N K 0 l.ntmps k.body O Fence.wide 0 w.heap.size (.inl rfl) (.inl rfl) c m ⟨Ur args 0,H⟩ x t d _ w μ D B _ fun i b g J L M=>y i b ?_
  exact Po (nt:=l.ntmps) D k.results u r j R i.tmps (fun v X F G I=>V v X g F G I) i.defers b J L M
 cases x with
 |exit id=>simp[d]at a
 |normal=>
  simp only[d]at a;cases j:Xt (WC t) k.results with
  |none=>simp[j]at a
  |some C=>
   simp only[j,Za,Zn]at a;obtain⟨rfl,rfl⟩:=a;exact p j rfl fun i b h=>h
 |ret=>
  simp only[d]at a;cases j:Xt (WC t) k.results with
  |none=>simp[j]at a
  |some C=>
   simp only[j,Za,Zn]at a;obtain⟨rfl,rfl⟩:=a;exact p j rfl fun i b h=>h
theorem QZ.Fk {f:Nat}{g:W4}(d:QZ P f g):l9 P f:=by
 obtain⟨h,c,a,b,e,_⟩:=d.ok;exact Ol a e b
theorem nn {L:BS}{v:Value}{p:PV}(b:∀a,p≠.XY a)(r:XC w L μ0 h0 v (inj p)):VL w L μ0 h0 v (lD p):=by
 cases p with
 |one l=>exact r
 |agg c=>exact r
 |XY a=>exact absurd rfl (b a)
theorem gb {d:DV}{p:PV}(a:XU h d=some p):∀b,p≠.XY b:=by
 intro b e;subst e;cases d with
 |one l=>simp only[XU]at a;split at a<;>simp at a
 |agg c=>simp only[XU]at a;split at a<;>simp at a
 |XY f=>simp[XU]at a
theorem nK (A:X4 w O μ h)(L:BS)(B:∀b,L b->Live O μ h b)(r:∀id b,h id=some b->¬L (μ id))(f:List Value)(v:List DV)(e:List PV)(t:XF (XC w O μ h) f v)(E:Xt (XU h) v=some e):
  XC w L μ0 h0 (sU f) (inj (cM e)):=by
 obtain⟨k,j⟩:=Td E;have c:∀(i:Nat) (u:Value) (p:PV),f[i]? =some u->e[i]? =some p->XC w L μ0 h0 u (inj p)/\∀G,p≠.XY G:=by
  intro i u p s l;obtain⟨d,D,g⟩:=j i p l;obtain⟨H,m,F⟩:=t.get i d D;rw[s]at m;cases m;refine⟨aD A L B d p u F g fun id q=> ?_,gb g⟩;obtain⟨b,C⟩:=bR d id q;exact r id b C
 have n:f.length=e.length:=by rw[t.length,k]
 have a:XC w L μ0 h0 (.tuple f.toArray) (inj (.XY e)):=by
  refine⟨f,rfl,XF.VZ (by simpa using n) fun i u y s o=> ?_⟩;rw[Zx]at o;cases l:e[i]? with
  |none=>simp[l]at o
  |some p=>
   simp only[l,ZU,Za]at o;subst o;obtain⟨x,z⟩:=c i u p s l;exact nn z x
 match f,e,n with
 |[],[],_=>exact a
 |[u],[p],_=>exact(c 0 u p rfl rfl).1
 |u::u2::ur,p::p2::pr,_=>exact a
theorem hJ:Xl []=h0:=by funext x;simp[Xl,h0]
theorem yk (E:Xb)(I:Wu P E)(G:OC P E)(K:Nat){f:Nat}{z:W4}(B:QZ P f z)(h:List PV)(r:PV)(e:UZ E K z h=some r):CC P f h r/\l9 P f:=by
 refine⟨fun w L D o c=> ?_,B.Fk⟩;unfold UZ at e;cases a:Sv E K z (h.map inj) []with
 |none=>simp[a]at e
 |some q=>
 obtain⟨x,s⟩:=q;simp only[a]at e;cases t:Xt (XU (Xl s.H)) x with
 |none=>simp[t]at e
 |some Q=>
 simp only[t,Za]at e;subst e;have n:X4 w L μ0 (Xl []):=by
  rw[hJ];exact⟨fun id b a=>by simp[h0]at a,fun id N b T a=>by simp[h0]at a,fun id b a=>by simp[h0]at a,o⟩
 have d:XF (XC w L μ0 (Xl [])) D (h.map inj):=by
  rw[hJ];refine XF.VZ (by simpa using c.length) fun i v y M m=> ?_
  rw[Zx]at m;cases u:h[i]? with
  |none=>simp[u]at m
  |some p=>
   simp only[u,ZU,Za]at m;subst m;obtain⟨U,l,e⟩:=c.get i p u;rw[M]at l;cases l;exact e
 refine gL (O:=L) E I G K B (h.map inj) [] x s a D n d _ fun R V S A F g=>⟨_,rfl,nK A L (fun b a=>.inl a) (fun id b a=>A.NI id b a) R x Q F t,?_⟩
 refine⟨g.os,g.tape,g.output,g.keeps.size,fun k J=> ?_⟩;by_cases j:L k
 ·exact g.js k j
 ·refine g.keeps.V2 k J fun C=> ?_
  rw[hJ,Qb]at C;exact j C
theorem zr (E:Xb)(D:Wu P E)(C:OC P E)(K:Nat){f:Nat}{t:W4}(x:QZ P f t)(args:List DV)(H:List Xz)(d:DV)(v:List Xz)(e:VU E K t args H=some (d,v)):CH P f args H d v/\l9 P f:=by
 refine⟨fun w O μ I F c=> ?_,x.Fk⟩;unfold VU at e;cases m:Sv E K t args H with
 |none=>simp[m]at e
 |some q=>
 obtain⟨o,s⟩:=q;simp only[m]at e;obtain⟨n,g⟩:=Xw e;simp only[Zn]at g;obtain⟨rfl,rfl⟩:=g;refine gL (O:=O) E D C K x args H o s m I F c _ fun p J k A b B=>⟨_,k,rfl,?_,A,B⟩
 have a:XC J O k (Xl s.H) (.tuple p.toArray) (.XY o):=by
  refine⟨p,rfl,XF.VZ b.length fun i u y G z=> ?_⟩;obtain⟨N,j,e⟩:=b.get i y z;rw[G]at j;cases j;have:=ZP.1 n y (Zt z);cases y with
  |one l=>exact e
  |agg L=>exact e
  |XY M=>simp[DV.plain]at this
 match p,o,b with
 |[],[],_=>exact a
 |[u],[r],b=>cases b with |cons h _=>exact h
 |u::u2::ur,r::r2::rr,_=>exact a
 |[],_::_,b=>cases b
 |_::_,[],b=>cases b
 |[_],_::_::_,b=>cases b with |cons _ h=>cases h
 |_::_::_,[_],b=>cases b with |cons _ h=>cases h
end
end Go.Ev
namespace Go.Ev
def ins (x:Nat):List Nat->List Nat
 |[]=>[x]
 |y::l=>bif Nat.blt x y then x::y::l else bif Nat.beq x y then y::l else y::ins x l
def wW (a b:List Nat):List Nat:=a.foldr ins b
def rem (x:Nat):List Nat->List Nat
 |[]=>[]
 |y::l=>bif Nat.beq x y then rem x l else y::rem x l
def look:List (Nat×List Nat)->Nat->List Nat
 |[],_=>[]
 |(j,l)::e,i=>bif Nat.beq i j then l else look e i
def Xx.use (o:Xx)(l:List Nat):List Nat:=wW o.tmps (match o.dst with |some d=>rem d l|none=>l)
def XE.n:XE->Nat
 | .region _ ops=>ops.length
 | .seq a b=>a.n+b.n
 | .cond _ a b=>a.n+b.n
 | .block _ c=>c.n
 | .loop c=>c.n
 | .scope c=>c.n
 | .PJ _ _ a b=>a.n+b.n
 |_=>0
def XE.leaf:XE->Bool
 | .skip=>true
 | .ret=>true
 | .exit _=>true
 | .region _ _=>true
 |_=>false
def XE.li:XE->List Nat->List (Nat×List Nat)->List Nat
 | .region _ ops,o,_=>ops.foldr Xx.use o
 | .seq a b,o,e=>a.li (b.li o e) e
 | .cond c a b,o,e=>wW c.tmp (wW (a.li o e) (b.li o e))
 | .block i c,o,e=>c.li o ((i+1,o)::e)
 | .loop c,_,e=>c.li [] e
 | .scope c,o,e=>c.li o e
 | .exit i,_,e=>look e (i+1)
 | .ret,_,e=>look e 0
 | .PJ f vs a b,o,e=>wW f.tmp (wW (vs.foldr rem (a.li (b.li o e) e)) o)
 |_,o,_=>o
def Gl:aX->Bool
 | .store _=>true
 | .append _ _ _=>true
 | .clear _=>true
 | .mapUpdate _ _ _ _=>true
 | .copy _=>true
 |_=>false
def pR:Nat->List Xx->List Xx×List Xx
 |_,[]=>([],[])
 |i,o::os=>bif TJ i (o::os)then([],o::os)else(o::(pR (i+1) os).1,(pR (i+1) os).2)
def Dk (ops:List Xx):XE:=
 bif Nat.blt 1 (ops.filter fun o=>Gl o.op).length&& !(pR 0 ops).2.isEmpty then .Re (pR 0 ops).1 (pR 0 ops).2 else .region true ops
def XE.an:XE->List Nat->List (Nat×List Nat)->XE
 | .region d ops,_,_=>bif d then Dk ops else .region d ops
 | .seq a b,o,e=>.seq (a.an (b.li o e) e) (bif Nat.blt 6 a.n&& !b.leaf then .V2 (b.li o e) (b.an o e)else b.an o e)
 | .cond c a b,o,e=>.cond c (a.an o e) (b.an o e)
 | .block i c,o,e=>.block i (c.an o ((i+1,o)::e))
 | .loop c,_,e=>.loop (.V2 (c.li [] e) (c.an (c.li [] e) e))
 | .scope c,o,e=>.scope (c.an o e)
 | .PJ f vs a b,o,e=>.PJ f vs (.V2 (wW vs (wW (vs.foldr rem (a.li (b.li o e) e)) o)) (a.an (b.li (wW (vs.foldr rem (a.li (b.li o e) e)) o) e) e)) (b.an (wW (vs.foldr rem (a.li (b.li o e) e)) o) e)
 |c,_,_=>c
def XE.k:XE->Nat
 | .seq a b=>a.k+b.k
 | .cond _ a b=>a.k+b.k
 | .block _ c=>c.k
 | .V2 _ c=>c.k
 | .scope c=>c.k
 | .PJ _ _ a b=>a.k+b.k
 | .loop c=>c.k+1
 |_=>0
def inl (s:List XE)(j:Nat):XE->XE
 | .V2 ks _=>.V2 ks (s.getD j .skip)
 |c=>c
def XE.nm (s:List XE):XE->Nat->XE
 | .seq a b,i=>.seq (a.nm s i) (b.nm s (i+a.k))
 | .cond c a b,i=>.cond c (a.nm s i) (b.nm s (i+a.k))
 | .block j c,i=>.block j (c.nm s i)
 | .V2 ks c,i=>.V2 ks (c.nm s i)
 | .scope c,i=>.scope (c.nm s i)
 | .PJ f vs a b,i=>.PJ f vs (a.nm s i) (b.nm s (i+a.k))
 | .loop c,i=>.loop (inl s (i+c.k) c)
 |c,_=>c
def GA:XE->XE
 | .V2 _ c=>c
 |c=>c
def XE.lo (s:List XE):XE->Nat->Nat->XE
 | .seq a b,i,j=>bif Nat.blt j (i+a.k)then a.lo s i j else b.lo s (i+a.k) j
 | .cond _ a b,i,j=>bif Nat.blt j (i+a.k)then a.lo s i j else b.lo s (i+a.k) j
 | .block _ c,i,j=>c.lo s i j
 | .V2 _ c,i,j=>c.lo s i j
 | .scope c,i,j=>c.lo s i j
 | .PJ _ _ a b,i,j=>bif Nat.blt j (i+a.k)then a.lo s i j else b.lo s (i+a.k) j
 | .loop c,i,j=>bif Nat.beq j (i+c.k)then GA (c.nm s i)else c.lo s i j
 |_,_,_=>.skip
def W4.an (x:W4):W4:=⟨x.ntmps,x.results,x.body.an (wW (x.results.map (·.1)) []) [(0,wW (x.results.map (·.1)) [])]⟩
def nU (P:Program)(fn:Func):Option W4:=(oY P fn).map W4.an
theorem sf:∀(i:Nat) (l:List Xx),(pR i l).1++(pR i l).2=l/\TJ (i+(pR i l).1.length) (pR i l).2=true
 |_,[]=>⟨rfl,rfl⟩
 |i,o::os=>by
  obtain⟨a,b⟩:=sf (i+1) os;unfold pR;cases h:TJ i (o::os)with
  |true=>exact⟨rfl,h⟩
  |false=>
   simp only[cond_false];exact⟨by simp[a],by rw[Zi,show i+((pR (i+1) os).1.length+1)=i+1+(pR (i+1) os).1.length by omega];exact b⟩
theorem qx (a:List Xx):(Dk a).erase=.region true a:=by
 obtain⟨c,b⟩:=sf 0 a;unfold Dk;cases d:(Nat.blt 1 (a.filter fun o=>Gl o.op).length&& !(pR 0 a).2.isEmpty)with
 |true=>
  rw[Z4]at b;simp only[cond_true,XE.erase,b,c]
 |false=>rfl
theorem Th:∀(c:XE) (o:List Nat) (e:List (Nat×List Nat)),(c.an o e).erase=c.erase
 | .region d ops,_,_=>by
   cases d with
   |true=>exact qx ops
   |false=>rfl
 | .seq a b,o,e=>by
   simp only[XE.an,XE.erase,Th a];cases(Nat.blt 6 a.n&& !b.leaf)<;>simp only[cond_true,cond_false,XE.erase,Th b]
 | .cond c a b,o,e=>by simp only[XE.an,XE.erase,Th a,Th b]
 | .block i c,o,e=>by simp only[XE.an,XE.erase,Th c]
 | .loop c,o,e=>by simp only[XE.an,XE.erase,Th c]
 | .scope c,o,e=>by simp only[XE.an,XE.erase,Th c]
 | .PJ f vs a b,o,e=>by simp only[XE.an,XE.erase,Th a,Th b]
 | .skip,_,_=>rfl
 | .Re _ _,_,_=>rfl
 | .V2 _ _,_,_=>rfl
 | .exit _,_,_=>rfl
 | .ret,_,_=>rfl
theorem rJ {P:Program}{k:Nat}:∀(c:Code) (x:XE),XO P k c=some x->x.erase=x:=by
 intro c;induction c with
 |skip=>intro x h;cases h;rfl
 |exit _=>intro x h;cases h;rfl
 |ret=>intro x h;cases h;rfl
 |label _=>intro x h;cases h;rfl
 |goto _=>intro x h;cases h
 |refuse _=>intro x h;cases h
 |region i l d=>
  intro x h;simp only[XO]at h;split at h
  ·cases d with
   |true=>
    simp only[if_true]at h;split at h<;>cases h;rfl
   |false=>cases h;rfl
  ·cases h
 |seq a b e g=>
  intro x h;simp only[XO]at h;split at h<;>cases h;simp only[XE.erase,e _ ‹_›,g _ ‹_›]
 |cond c a b e g=>
  intro x h;simp only[XO]at h;split at h<;>cases h;simp only[XE.erase,e _ ‹_›,g _ ‹_›]
 |block i c j=>
  intro x h;simp only[XO]at h;split at h<;>cases h;simp only[XE.erase,j _ ‹_›]
 |loop c j=>
  intro x h;simp only[XO]at h;split at h<;>cases h;simp only[XE.erase,j _ ‹_›]
 |scope c j=>
  intro x h;simp only[XO]at h;split at h<;>cases h;simp only[XE.erase,j _ ‹_›]
 |rangeFunc f m a b e g=>
  intro x h;simp only[XO]at h;split at h
  ·split at h<;>cases h;simp only[XE.erase,e _ ‹_›,g _ ‹_›]
  ·cases h
theorem okF {P:Program}{f:Nat}{x:W4}(h:(P.funcs[f]?).bind (nU P)=some x):QZ P f x:=by
 obtain⟨g,i,d⟩:=Option.bind_eq_some_iff.1 h;unfold nU at d;obtain⟨y,a,rfl⟩:=Option.map_eq_some_iff.1 d;unfold oY at a;split at a
 ·cases a
 ·rename_i l;split at a
  ·rename_i c k;split at a
   ·rename_i b m e j;cases a;exact⟨⟨g,c,i,k,by simpa using l,rfl,by rw[e];exact congrArg some ((rJ c b e).symm.trans (Th b _ _).symm),j⟩⟩
   ·cases a
  ·cases a
end Go.Ev
