/- Functions: from the interpreter's run of a body to a contract. -/
import Derived.Test.YtidginchkjhobaaGreatEvCode
namespace Go.Ev
open Go.RowKit
section
variable {lo:Nat}{P:Program}{O:BS}{w:World}{μ:Nat->Nat}{h:HF}
def UZ:X'->Nat->List (Nat×DV)
 |[],_=>[]
 |v::vs,i=>(i,v)::UZ vs (i+1)
theorem Nb {b:Type}:∀(a:X') (i:Nat) (k:List (Nat×DV)->b),xS a i k=k (UZ a i)
 |[],_,_=>rfl
 |v::a,i,k=>by simp only[xS,UZ];rw[Nb a]
theorem jw:∀(a:X') (i t:Nat) (d:DV),Xh (UZ a i) t=some d->i<=t/\a[t-i]? =some d
 |[],_,_,_,h=>by simp[UZ,Xh]at h
 |v::a,i,t,d,h=>by
  simp only[UZ,UR]at h;by_cases e:i=t
  ·subst e;rw[if_pos rfl]at h;cases h;exact⟨Ze _,by simp⟩
  ·rw[if_neg e]at h;obtain⟨c,b⟩:=jw a (i+1) t d h;refine⟨by omega,?_⟩;rw[show t-i=(t-(i+1))+1 by omega];simpa using b
theorem eC {b:Nat}{a:List Value}{args:X'}(e:lo<=w.heap.size)(k:args.length<=b)(i:XB (XA w O μ h) a args):
  Wz lo b O w μ h {tmps:=a.toArray++Array.replicate (b-a.toArray.size) undef,defers:=[]} (UZ args 0):=by
 have m:=i.length;refine⟨⟨e,.nil,fun d c=>by simp at c⟩,by simp;omega,fun t d c=> ?_⟩;obtain⟨_,g⟩:=jw args 0 t d c;simp only[YW]at g;obtain⟨v,j,l⟩:=i.get t d g;have f:t<a.length:=(Zf.1 j).1;have :({tmps:=a.toArray++Array.replicate (b-a.toArray.size) undef,defers:=[]}:Act).tmps.getD t undef=v:=by
  rw[Yc,Array.getElem?_append_left (by simpa using f)];simp[j]
 rw[this];exact l
theorem EG {R:Nat}{a:Act}{s:St}(L:X3 w O μ (Xj s.H))(y:Wz lo R O w μ (Xj s.H) a s.T)(J:ResultVar)(x:Nat×Option (Bool×Nat))(n:R3 P J=some x)(d:DV)(j:WH s x=some d):
  ∃v,(match J with
   | .tmp t=>(pure (a.tmps.getD t undef):Sem Value)
   | .cell q t=>do loadVar t (<-asAddr (a.tmps.getD q undef))).run P w=.ok v w/\XA w O μ (Xj s.H) v d:=by
 cases J with
 |tmp t=>
  simp only[R3,Za]at n;subst n;exact⟨_,by simp,y.slot t d j⟩
 |cell q t=>
  simp only[R3]at n;split at n<;>simp only[Za,reduceCtorEq]at n;rename_i A U B G;subst n;simp only[WH]at j;split at j
  ·rename_i id XM i k Q;split at j
   ·rename_i b M;obtain⟨f,j⟩:=Wg j;rw[Zs]at f;have z:=Zl f.1;have E:b.mp=false:=by simpa using f.2
    split at j
    ·rename_i c N;obtain⟨K,I,rfl⟩:=WU G;obtain⟨S,g,o,e,r,_,F⟩:=(y.slot q _ Q).P0;have p:Xj s.H id=some b:=M;rw[p]at r;cases r;obtain⟨rfl,rfl⟩:=F z.symm;have m:Sa A K.size (c.drop k)=some d:=by
      unfold Sa;cases A with
      |true=>
       simp only[cond_true]at j⊢;obtain⟨D,rfl⟩:=XX j;have:=W7 D;have C:Nat.ble K.size (c.drop k).length=true:=by rw[Nat.ble_eq];simp;omega
       rw[C];rfl
      |false=>simpa using j
     obtain⟨v,l,u⟩:=dG (P:=P) (w:=w) (O:=O) (μ:=μ) (h:=Xj s.H) t K A B I (μ id) (i*b.sz+k) (c.drop k) (O7 L p E N k) d m;refine⟨v,?_,u⟩;show(do loadVar t (<-asAddr (a.tmps.getD q undef)):Sem Value).run P w=_;rw[e];simp only[asAddr,Sem.run_bind,Sem.run_pure,Result.andThen_ok];simp only[Instr.loadAt,Instr.sureAddr,Sem.run_bind,Sem.run_pure,Result.andThen_ok]at l;exact l
    ·simp at j
   ·simp at j
  ·simp at j
theorem wx {z:Nat}{a:Act}{s:St}(o:X3 w O μ (Xj s.H))(c:Wz lo z O w μ (Xj s.H) a s.T):∀(b:List ResultVar) (g:List (Nat×Option (Bool×Nat))) (e:X'),Xv (R3 P) b=some g->Xv (WH s) g=some e->
  ∃f:List Value,(List.mapM (fun m=>match m with
   |ResultVar.tmp t=>(pure (a.tmps.getD t undef):Sem Value)
   |ResultVar.cell q t=>do loadVar t (<-asAddr (a.tmps.getD q undef))) b).run P w=.ok f w/\XB (XA w O μ (Xj s.H)) f e
 |[],g,e,h1,h2=>by rw[fG h1]at h2;rw[fG h2];exact⟨[],by simp,.nil⟩
 |m::b,g,e,h1,h2=>by
  obtain⟨x,n,y,l,rfl⟩:=map_cons h1;obtain⟨d,h,p,i,rfl⟩:=map_cons h2;obtain⟨v,u,r⟩:=EG o c m x y d p;obtain⟨f,k,j⟩:=wx o c b n h l i;refine⟨v::f,?_,.cons r j⟩;rw[List.mapM_cons,Sem.run_bind,u];simp only[Result.andThen_ok,Sem.run_bind,k,Sem.run_pure]
def wM:List Value->Value
 |[v]=>v
 |vs=>.tuple vs.toArray
theorem qQ {n:Nat}{a:Act}{s:St}(i:Func)(m:X3 w O μ (Xj s.H))(d:Wz lo n O w μ (Xj s.H) a s.T)(j:List (Nat×Option (Bool×Nat)))(g:X')(k:Xv (R3 P) i.results.toList=some j)(l:Xv (WH s) j=some g):
  ∃b:List Value,(results i a.tmps).run P w=.ok (wM b) w/\XB (XA w O μ (Xj s.H)) b g:=by
 obtain⟨b,e,c⟩:=wx m d _ _ _ k l;refine⟨b,?_,c⟩;unfold results;rw[Sem.run_bind,Array.mapM_eq_mapM_toList,Sem.run_map];refine Eq.trans (congrArg (fun r:Result (List Value)=>(r.andThen fun a f=>Result.ok a.toArray f).andThen fun(a:Array Value) f=>Sem.run P (pure (if h:a.size=1 then a[0]else Value.tuple a)) f) e) ?_
 match b with
 |[]=>rfl
 |[v]=>rfl
 |v::u::r=>rfl
structure PB (P:Program)(f:Nat)(xf:Vl):Prop where
 ok : ∃ fn c, P.funcs[f]? = some fn /\ fn.body = some c /\ (fn.name == "runtime.NumGoroutine") = false /\ fn.ntmps = xf.ntmps /\ XO P fn.ntmps c = some xf.body.erase /\ Xv (R3 P) fn.results.toList = some xf.results
theorem PZ {nt:Nat}{i:World}{a:Nat->Nat}{c:HF}{fn:Func}{s:St}(f:X3 i O a c)(u:List (Nat×Option (Bool×Nat)))(q:X')(z:Xv (R3 P) fn.results.toList=some u)(A:Xv (WH s) u=some q)(R:Ending->World->Prop)(tmps:Array Value)
  (F:∀k l,X3 l O μ (Xj s.H)->XB (XA l O μ (Xj s.H)) k q->Wy O i a c l μ (Xj s.H)->R (.returned (wM k)) l):∀(j:List Deferred) (w:World),X3 w O μ (Xj s.H)->Wz i.heap.size nt O w μ (Xj s.H) {tmps:=tmps,defers:=j} s.T->Wy O i a c w μ (Xj s.H)->
   LeavesInM Fence.wide 0 P fn tmps R j .returning w
 |[],w,hI,hsl,hm=>by
  obtain⟨k,p,o⟩:=qQ (P:=P) fn hI hsl _ _ z A;exact⟨_,p,F k w hI o hm⟩
 |d::j,w,hI,hsl,hm=>by
  obtain⟨D,C,m,B,L⟩:=hsl.nb.2.2 d (Zc ..);have g:=Zu.1 hsl.nb.2.1;have b:kU (.deferred (some [])):=⟨(fun _ _ _ h=>by cases h),(fun _ _ h=>by cases h)⟩;have r:=U6 B b (o':=.deferred none) ⟨(fun _ _ _ h=>by cases h),(fun _ _ h=>by cases h)⟩;refine⟨by simp,.inl ⟨D,_,by rw[C];rfl,run_takeDeferred B,PZ (nt:=nt) f u q z A R tmps F j _ (hI.same r) ?_ (T9 f hm m _)⟩⟩;refine⟨⟨Zx hsl.nb.1 r.size,g.2,fun e E=> ?_⟩,hsl.sz,fun t x M=>(hsl.slot t x M).same r⟩;obtain⟨v,y,I,J,K⟩:=hsl.nb.2.2 e (Zb _ E);refine⟨v,y,I,?_,K⟩;have n:v≠D:=fun G=>g.1 e E (by rw[C,y,G])
  rw[World.putObj_heap_other n];exact J
theorem jW (E:Xa)(hE:Ww P E)(N:Nj P E)(K:Nat){f:Nat}{k:Vl}(T:PB P f k)(args:X')(H:V')(u:X')(s:St)(a:Qu E K k args H=some (u,s))
  (o:List Value) (D:X3 w O μ (Xj H)) (Q:XB (XA w O μ (Xj H)) o args) (R:Ending->World->Prop)
  (U:∀v b g,X3 b O g (Xj s.H)->XB (XA b O g (Xj s.H)) v u->Wy O w μ (Xj H) b g (Xj s.H)->R (.returned (wM v)) b):Calls P f o.toArray w R:=by
 obtain⟨l,c,z,S,_,A,m,r⟩:=T.ok;unfold Qu at a;rw[Nb]at a;cases e:Nat.ble args.length k.ntmps with
 |false=>rw[e]at a;simp at a
 |true=>
 rw[e,cond_true]at a;have e:=W7 e;refine(callsIn_wide (n:=0)).1 (callsIn_of_wp_marks z S trivial ?_);have B:Wz w.heap.size l.ntmps O w μ (Xj H) {tmps:=o.toArray++Array.replicate (l.ntmps-o.toArray.size) undef,defers:=[]} (UZ args 0):=eC (Ze _) (by rw[A];exact e) Q;cases d:XI E K 0 k.body ⟨UZ args 0,H⟩with
 |none=>simp[d]at a
 |some q=>
 obtain⟨x,t⟩:=q;have p:Xv (WH t) k.results=some u->t=s->(∀i b,LeavesInM Fence.wide 0 P l i.tmps R i.defers .returning b->bodyPostM Fence.wide 0 P l R (FB x) i b)->c.wpIn Fence.wide 0 P (bodyPostM Fence.wide 0 P l R) {tmps:=o.toArray++Array.replicate (l.ntmps-o.toArray.size) undef,defers:=[]} w:=by
  intro j V y;subst V;refine Ps E hE N K 0 l.ntmps k.body O Fence.wide 0 w.heap.size (.inl rfl) (.inl rfl) c m ⟨UZ args 0,H⟩ x t d _ w μ D B _ fun i b g J L M=>y i b ?_
  exact PZ (nt:=l.ntmps) D k.results u r j R i.tmps (fun v W F G I=>U v W g F G I) i.defers b J L M
 cases x with
 |exit id=>simp[d]at a
 |normal=>
  simp only[d]at a;cases j:Xv (WH t) k.results with
  |none=>simp[j]at a
  |some C=>
   simp only[j,Za,Zp]at a;obtain⟨rfl,rfl⟩:=a;exact p j rfl fun i b h=>h
 |ret=>
  simp only[d]at a;cases j:Xv (WH t) k.results with
  |none=>simp[j]at a
  |some C=>
   simp only[j,Za,Zp]at a;obtain⟨rfl,rfl⟩:=a;exact p j rfl fun i b h=>h
theorem PB.JM {f:Nat}{g:Vl}(d:PB P f g):pT P f:=by
 obtain⟨h,c,a,b,e,_⟩:=d.ok;exact dY a e b
theorem qW {L:BS}{v:Value}{p:PV}(b:∀a,p≠.X9 a)(r:XA w L μ0 h0 v (inj p)):V5 w L μ0 h0 v (oE p):=by
 cases p with
 |one l=>exact r
 |agg c=>exact r
 |X9 a=>exact absurd rfl (b a)
theorem jx {d:DV}{p:PV}(a:XT h d=some p):∀b,p≠.X9 b:=by
 intro b e;subst e;cases d with
 |one l=>simp only[XT]at a;split at a<;>simp at a
 |agg c=>simp only[XT]at a;split at a<;>simp at a
 |X9 f=>simp[XT]at a
theorem rl (A:X3 w O μ h)(L:BS)(B:∀b,L b->Live O μ h b)(r:∀id b,h id=some b->¬L (μ id))(f:List Value)(v:X')(e:List PV)(t:XB (XA w O μ h) f v)(E:Xv (XT h) v=some e):
  XA w L μ0 h0 (wM f) (inj (eI e)):=by
 obtain⟨k,j⟩:=TG E;have c:∀(i:Nat) (u:Value) (p:PV),f[i]? =some u->e[i]? =some p->XA w L μ0 h0 u (inj p)/\∀G,p≠.X9 G:=by
  intro i u p s l;obtain⟨d,D,g⟩:=j i p l;obtain⟨H,m,F⟩:=t.get i d D;rw[s]at m;cases m;refine⟨RY A L B d p u F g fun id q=> ?_,jx g⟩;obtain⟨b,C⟩:=Po d id q;exact r id b C
 have n:f.length=e.length:=by rw[t.length,k]
 have a:XA w L μ0 h0 (.tuple f.toArray) (inj (.X9 e)):=by
  refine⟨f,rfl,XB.Uj (by simpa using n) fun i u y s o=> ?_⟩;rw[ZD]at o;cases l:e[i]? with
  |none=>simp[l]at o
  |some p=>
   simp only[l,Z6,Za]at o;subst o;obtain⟨x,z⟩:=c i u p s l;exact qW z x
 match f,e,n with
 |[],[],_=>exact a
 |[u],[p],_=>exact(c 0 u p rfl rfl).1
 |u::u2::ur,p::p2::pr,_=>exact a
theorem kr:Xj []=h0:=by funext x;simp[Xj,h0]
theorem BN (E:Xa)(hE:Ww P E)(G:Nj P E)(K:Nat){f:Nat}{z:Vl}(B:PB P f z)(h:List PV)(r:PV)(e:UX E K z h=some r):CC P f h r/\pT P f:=by
 refine⟨fun w L D o c=> ?_,B.JM⟩;unfold UX at e;cases a:Qu E K z (h.map inj) []with
 |none=>simp[a]at e
 |some q=>
 obtain⟨x,s⟩:=q;simp only[a]at e;cases t:Xv (XT (Xj s.H)) x with
 |none=>simp[t]at e
 |some N=>
 simp only[t,Za]at e;subst e;have n:X3 w L μ0 (Xj []):=by
  rw[kr];exact⟨fun id b a=>by simp[h0]at a,fun id M b S a=>by simp[h0]at a,fun id b a=>by simp[h0]at a,o⟩
 have d:XB (XA w L μ0 (Xj [])) D (h.map inj):=by
  rw[kr];refine XB.Uj (by simpa using c.length) fun i v y J m=> ?_
  rw[ZD]at m;cases u:h[i]? with
  |none=>simp[u]at m
  |some p=>
   simp only[u,Z6,Za]at m;subst m;obtain⟨T,l,e⟩:=c.get i p u;rw[J]at l;cases l;exact e
 refine jW (O:=L) E hE G K B (h.map inj) [] x s a D n d _ fun Q U R A F g=>⟨_,rfl,rl A L (fun b a=>.inl a) (fun id b a=>A.S7 id b a) Q x N F t,?_⟩
 refine⟨g.os,g.tape,g.output,g.keeps.size,fun k I=> ?_⟩;by_cases j:L k
 ·exact g.N1 k j
 ·refine g.keeps.VM k I fun C=> ?_
  rw[kr,TP]at C;exact j C
theorem Cv (E:Xa)(hE:Ww P E)(C:Nj P E)(K:Nat){f:Nat}{t:Vl}(x:PB P f t)(args:X')(H:V')(d:DV)(v:V')(e:VD E K t args H=some (d,v)):CH P f args H d v/\pT P f:=by
 refine⟨fun w O μ G D c=> ?_,x.JM⟩;unfold VD at e;cases m:Qu E K t args H with
 |none=>simp[m]at e
 |some q=>
 obtain⟨o,s⟩:=q;simp only[m]at e;obtain⟨n,g⟩:=XX e;simp only[Zp]at g;obtain⟨rfl,rfl⟩:=g;refine jW (O:=O) E hE C K x args H o s m G D c _ fun p I k A b B=>⟨_,k,rfl,?_,A,B⟩
 have a:XA I O k (Xj s.H) (.tuple p.toArray) (.X9 o):=by
  refine⟨p,rfl,XB.Uj b.length fun i u y F z=> ?_⟩;obtain⟨M,j,e⟩:=b.get i y z;rw[F]at j;cases j;have:=ZI.1 n y (Zk z);cases y with
  |one l=>exact e
  |agg J=>exact e
  |X9 L=>simp[DV.plain]at this
 match p,o,b with
 |[],[],_=>exact a
 |[u],[r],b=>cases b with |cons h _=>exact h
 |u::u2::ur,r::r2::rr,_=>exact a
 |[],_::_,b=>cases b
 |_::_,[],b=>cases b
 |[_],_::_::_,b=>cases b with |cons _ h=>cases h
 |_::_::_,[_],b=>cases b with |cons _ h=>cases h
end
end Go.Ev
namespace Go.Ev
def ins (x:Nat):P'->P'
 |[]=>[x]
 |y::l=>bif Nat.blt x y then x::y::l else bif Nat.beq x y then y::l else y::ins x l
def AP (a b:P'):P':=a.foldr ins b
def rem (x:Nat):P'->P'
 |[]=>[]
 |y::l=>bif Nat.beq x y then rem x l else y::rem x l
def look:List (Nat×P')->Nat->P'
 |[],_=>[]
 |(j,l)::e,i=>bif Nat.beq i j then l else look e i
def Xy.use (o:Xy)(l:P'):P':=AP o.tmps (match o.dst with |some d=>rem d l|none=>l)
def XH.n:XH->Nat
 | .region _ ops=>ops.length
 | .seq a b=>a.n+b.n
 | .cond _ a b=>a.n+b.n
 | .block _ c=>c.n
 | .loop c=>c.n
 | .scope c=>c.n
 | .Og _ _ a b=>a.n+b.n
 |_=>0
def XH.leaf:XH->Bool
 | .skip=>true
 | .ret=>true
 | .exit _=>true
 | .region _ _=>true
 |_=>false
def XH.li:XH->P'->List (Nat×P')->P'
 | .region _ ops,o,_=>ops.foldr Xy.use o
 | .seq a b,o,e=>a.li (b.li o e) e
 | .cond c a b,o,e=>AP c.tmp (AP (a.li o e) (b.li o e))
 | .block i c,o,e=>c.li o ((i+1,o)::e)
 | .loop c,_,e=>c.li [] e
 | .scope c,o,e=>c.li o e
 | .exit i,_,e=>look e (i+1)
 | .ret,_,e=>look e 0
 | .Og f vs a b,o,e=>AP f.tmp (AP (vs.foldr rem (a.li (b.li o e) e)) o)
 |_,o,_=>o
def K5:cH->Bool
 | .store _=>true
 | .append _ _ _=>true
 | .clear _=>true
 | .mapUpdate _ _ _ _=>true
 | .copy _=>true
 |_=>false
def pN:Nat->F'->F'×F'
 |_,[]=>([],[])
 |i,o::os=>bif Si i (o::os)then([],o::os)else(o::(pN (i+1) os).1,(pN (i+1) os).2)
def Hd (ops:F'):XH:=
 bif Nat.blt 1 (ops.filter fun o=>K5 o.op).length&& !(pN 0 ops).2.isEmpty then .RP (pN 0 ops).1 (pN 0 ops).2 else .region true ops
def XH.an:XH->P'->List (Nat×P')->XH
 | .region d ops,_,_=>bif d then Hd ops else .region d ops
 | .seq a b,o,e=>.seq (a.an (b.li o e) e) (bif Nat.blt 6 a.n&& !b.leaf then .VM (b.li o e) (b.an o e)else b.an o e)
 | .cond c a b,o,e=>.cond c (a.an o e) (b.an o e)
 | .block i c,o,e=>.block i (c.an o ((i+1,o)::e))
 | .loop c,_,e=>.loop (.VM (c.li [] e) (c.an (c.li [] e) e))
 | .scope c,o,e=>.scope (c.an o e)
 | .Og f vs a b,o,e=>.Og f vs (.VM (AP vs (AP (vs.foldr rem (a.li (b.li o e) e)) o)) (a.an (b.li (AP (vs.foldr rem (a.li (b.li o e) e)) o) e) e)) (b.an (AP (vs.foldr rem (a.li (b.li o e) e)) o) e)
 |c,_,_=>c
def XH.k:XH->Nat
 | .seq a b=>a.k+b.k
 | .cond _ a b=>a.k+b.k
 | .block _ c=>c.k
 | .VM _ c=>c.k
 | .scope c=>c.k
 | .Og _ _ a b=>a.k+b.k
 | .loop c=>c.k+1
 |_=>0
def inl (s:List XH)(j:Nat):XH->XH
 | .VM ks _=>.VM ks (s.getD j .skip)
 |c=>c
def XH.nm (s:List XH):XH->Nat->XH
 | .seq a b,i=>.seq (a.nm s i) (b.nm s (i+a.k))
 | .cond c a b,i=>.cond c (a.nm s i) (b.nm s (i+a.k))
 | .block j c,i=>.block j (c.nm s i)
 | .VM ks c,i=>.VM ks (c.nm s i)
 | .scope c,i=>.scope (c.nm s i)
 | .Og f vs a b,i=>.Og f vs (a.nm s i) (b.nm s (i+a.k))
 | .loop c,i=>.loop (inl s (i+c.k) c)
 |c,_=>c
def Li:XH->XH
 | .VM _ c=>c
 |c=>c
def XH.lo (s:List XH):XH->Nat->Nat->XH
 | .seq a b,i,j=>bif Nat.blt j (i+a.k)then a.lo s i j else b.lo s (i+a.k) j
 | .cond _ a b,i,j=>bif Nat.blt j (i+a.k)then a.lo s i j else b.lo s (i+a.k) j
 | .block _ c,i,j=>c.lo s i j
 | .VM _ c,i,j=>c.lo s i j
 | .scope c,i,j=>c.lo s i j
 | .Og _ _ a b,i,j=>bif Nat.blt j (i+a.k)then a.lo s i j else b.lo s (i+a.k) j
 | .loop c,i,j=>bif Nat.beq j (i+c.k)then Li (c.nm s i)else c.lo s i j
 |_,_,_=>.skip
def Vl.an (x:Vl):Vl:=⟨x.ntmps,x.results,x.body.an (AP (x.results.map (·.1)) []) [(0,AP (x.results.map (·.1)) [])]⟩
def rJ (P:Program)(fn:Func):Option Vl:=(sT P fn).map Vl.an
theorem wg:∀(i:Nat) (l:F'),(pN i l).1++(pN i l).2=l/\Si (i+(pN i l).1.length) (pN i l).2=true
 |_,[]=>⟨rfl,rfl⟩
 |i,o::os=>by
  obtain⟨a,b⟩:=wg (i+1) os;unfold pN;cases h:Si i (o::os)with
  |true=>exact⟨rfl,h⟩
  |false=>
   simp only[cond_false];exact⟨by simp[a],by rw[Zi,show i+((pN (i+1) os).1.length+1)=i+1+(pN (i+1) os).1.length by omega];exact b⟩
theorem uB (a:F'):(Hd a).erase=.region true a:=by
 obtain⟨c,b⟩:=wg 0 a;unfold Hd;cases d:(Nat.blt 1 (a.filter fun o=>K5 o.op).length&& !(pN 0 a).2.isEmpty)with
 |true=>
  rw[Yg]at b;simp only[cond_true,XH.erase,b,c]
 |false=>rfl
theorem TJ:∀(c:XH) (o:P') (e:List (Nat×P')),(c.an o e).erase=c.erase
 | .region d ops,_,_=>by
   cases d with
   |true=>exact uB ops
   |false=>rfl
 | .seq a b,o,e=>by
   simp only[XH.an,XH.erase,TJ a];cases(Nat.blt 6 a.n&& !b.leaf)<;>simp only[cond_true,cond_false,XH.erase,TJ b]
 | .cond c a b,o,e=>by simp only[XH.an,XH.erase,TJ a,TJ b]
 | .block i c,o,e=>by simp only[XH.an,XH.erase,TJ c]
 | .loop c,o,e=>by simp only[XH.an,XH.erase,TJ c]
 | .scope c,o,e=>by simp only[XH.an,XH.erase,TJ c]
 | .Og f vs a b,o,e=>by simp only[XH.an,XH.erase,TJ a,TJ b]
 | .skip,_,_=>rfl
 | .RP _ _,_,_=>rfl
 | .VM _ _,_,_=>rfl
 | .exit _,_,_=>rfl
 | .ret,_,_=>rfl
theorem vG {P:Program}{k:Nat}:∀(c:Code) (x:XH),XO P k c=some x->x.erase=x:=by
 intro c;induction c with
 |skip=>intro x h;cases h;rfl
 |exit _=>intro x h;cases h;rfl
 |ret=>intro x h;cases h;rfl
 |label _=>intro x h;cases h;rfl
 |goto _=>intro x h;cases h
 |refuse _=>intro x h;cases h
 |region i l d=>
  intro x h;simp only[XO]at h;split at h
  ·cases d with
   |true=>
    simp only[if_true]at h;split at h<;>cases h;rfl
   |false=>cases h;rfl
  ·cases h
 |seq a b e g=>
  intro x h;simp only[XO]at h;split at h<;>cases h;simp only[XH.erase,e _ ‹_›,g _ ‹_›]
 |cond c a b e g=>
  intro x h;simp only[XO]at h;split at h<;>cases h;simp only[XH.erase,e _ ‹_›,g _ ‹_›]
 |block i c j=>
  intro x h;simp only[XO]at h;split at h<;>cases h;simp only[XH.erase,j _ ‹_›]
 |loop c j=>
  intro x h;simp only[XO]at h;split at h<;>cases h;simp only[XH.erase,j _ ‹_›]
 |scope c j=>
  intro x h;simp only[XO]at h;split at h<;>cases h;simp only[XH.erase,j _ ‹_›]
 |rangeFunc f m a b e g=>
  intro x h;simp only[XO]at h;split at h
  ·split at h<;>cases h;simp only[XH.erase,e _ ‹_›,g _ ‹_›]
  ·cases h
theorem okF {P:Program}{f:Nat}{x:Vl}(h:(P.funcs[f]?).bind (rJ P)=some x):PB P f x:=by
 obtain⟨g,i,d⟩:=Option.bind_eq_some_iff.1 h;unfold rJ at d;obtain⟨y,a,rfl⟩:=Option.map_eq_some_iff.1 d;unfold sT at a;split at a
 ·cases a
 ·rename_i l;split at a
  ·rename_i c k;split at a
   ·rename_i b m e j;cases a;exact⟨⟨g,c,i,k,by simpa using l,rfl,by rw[e];exact congrArg some ((vG c b e).symm.trans (TJ b _ _).symm),j⟩⟩
   ·cases a
  ·cases a
end Go.Ev
