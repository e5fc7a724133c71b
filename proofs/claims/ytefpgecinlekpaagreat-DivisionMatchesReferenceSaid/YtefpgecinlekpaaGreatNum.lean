/- Numbers as lists of words: plain facts, no program in sight. -/
import Derived.Test.YtefpgecinlekpaaGreatZ
namespace Go.Num
def B:Nat:=4294967296
def val:List Nat->Nat
 |[]=>0
 |w::ws=>w+4294967296*val ws
def WB (ws:List Nat):Prop:=∀w∈ws,w<4294967296
theorem WB.cons {w:Nat}{a:List Nat}(h:WB (w::a)):w<4294967296/\WB a:=⟨h w (by simp),fun x b=>h x (by simp[b])⟩
theorem WB.mk {w:Nat}{b:List Nat}(h:w<4294967296)(k:WB b):WB (w::b):=by
 intro x a;rcases Zk.1 a with rfl|a
 ·exact h
 ·exact k x a
theorem WB.nil:WB []:=fun _ h=>by cases h
def W9:List Nat->List Nat
 |[]=>[]
 |w::ws=>match W9 ws with
  |[]=>if w=0 then[]else[w]
  |t=>w::t
theorem mr:∀a,val (W9 a)=val a
 |[]=>rfl
 |w::a=>by
  have b:=mr a;unfold W9;split
  ·rename_i h;rw[h]at b;simp only[val]at b;split
   ·simp only[val];omega
   ·simp only[val];omega
  ·simp only[val,b]
def Canon:List Nat->Prop
 |[]=>True
 |[w]=>w≠0
 |_::v::ws=>Canon (v::ws)
theorem eB:∀b,Canon (W9 b)
 |[]=>trivial
 |w::b=>by
  have d:=eB b;unfold W9;split
  ·split
   ·trivial
   ·assumption
  ·rename_i t h;cases c:W9 b with
   |nil=>exact absurd c h
   |cons a l=>rw[c]at d;exact d
theorem mF:∀{ws},WB ws->WB (W9 ws)
 |[],_=>WB.nil
 |w::ws,h=>by
  have a:=mF h.cons.2;unfold W9;split
  ·split
   ·exact WB.nil
   ·exact WB.mk h.cons.1 WB.nil
  ·exact WB.mk h.cons.1 a
theorem cp:∀{w ws},Canon (w::ws)->0<val (w::ws)
 |w,[],h=>by simp only[Canon]at h;simp only[val];omega
 |w,v::ws,h=>by
  have:=cp (w:=v) (ws:=ws) h;simp only[val]at this⊢;omega
theorem gK {w:Nat}{a:List Nat}(h:Canon (w::a)):Canon a:=by
 cases a with
 |nil=>trivial
 |cons v a=>exact h
theorem jZ:∀{a b:List Nat},WB a->WB b->Canon a->Canon b->val a=val b->a=b
 |[],[],_,_,_,_,_=>rfl
 |[],w::ws,_,_,_,hb,h=>by have:=cp hb;simp only[val]at h this;omega
 |w::ws,[],_,_,ha,_,h=>by have:=cp ha;simp only[val]at h this;omega
 |x::xs,y::ys,da,db,ha,hb,h=>by
  simp only[val]at h;have c:=da.cons.1;have d:=db.cons.1;have e1:x=y:=by omega
  have e2:val xs=val ys:=by omega
  rw[e1,jZ da.cons.2 db.cons.2 (gK ha) (gK hb) e2]
def Xd (n:Nat):List Nat:=if h:n=0 then[]else n%4294967296::Xd (n / 4294967296)
termination_by n
decreasing_by omega
theorem WT:Xd 0=[]:=by unfold Xd;simp
theorem Ut {n:Nat}(h:n≠0):Xd n=n%4294967296::Xd (n / 4294967296):=by
 rw[Xd];simp[h]
theorem Xj (n:Nat):val (Xd n)=n:=by
 induction n using Nat.strongRecOn with
 |ind n a=>
  by_cases h:n=0
  ·subst h;rw[WT];rfl
  ·rw[Ut h];simp only[val];rw[a _ (by omega)];omega
theorem Xn (n:Nat):WB (Xd n):=by
 induction n using Nat.strongRecOn with
 |ind n a=>
  by_cases h:n=0
  ·subst h;rw[WT];exact WB.nil
  ·rw[Ut h];exact WB.mk (by omega) (a _ (by omega))
theorem Ws (n:Nat):Canon (Xd n):=by
 induction n using Nat.strongRecOn with
 |ind n b=>
  by_cases h:n=0
  ·subst h;rw[WT];trivial
  ·rw[Ut h];have:=b (n / 4294967296) (by omega);by_cases a:n / 4294967296=0
   ·rw[a,WT];simp only[Canon];omega
   ·rw[Ut a]at this⊢;exact this
theorem zH {a:List Nat}(c:WB a)(b:Canon a){n:Nat}(d:val a=n):a=Xd n:=
 jZ c (Xn n) b (Ws n) (by rw[d,Xj])
theorem UG {a:List Nat}(b:WB a){n:Nat}(c:val a=n):W9 a=Xd n:=
 zH (mF b) (eB a) (by rw[mr,c])
theorem Q1:∀(a b:List Nat),val (a++b)=val a+4294967296^a.length*val b
 |[],b=>by simp[val]
 |w::a,b=>by
  simp only[ZR,val,Q1 a b,Zi,ZJ]
  grind
theorem WN:∀{ws:List Nat},WB ws->val ws<4294967296^ws.length
 |[],_=>by simp[val]
 |w::ws,h=>by
  have:=WN h.cons.2;have:=h.cons.1;simp only[val,Zi,ZJ];omega
theorem VV (n:Nat):val (List.replicate n 0)=0:=by
 induction n with
 |zero=>rfl
 |succ n a=>simp only[List.replicate_succ,val,a]
theorem Tl:∀{ws:List Nat} {p w x:Nat},ws[p]? =some x->val (ws.set p w)+x*4294967296^p=val ws+w*4294967296^p
 |[],_,_,_,h=>by simp at h
 |v::ws,0,w,x,h=>by simp at h;subst h;simp only[List.set_cons_zero,val];omega
 |v::ws,p+1,w,x,h=>by
  have:=Tl (ws:=ws) (p:=p) (w:=w) (x:=x) (by simpa using h);simp only[YZ,val,ZJ]
  grind
theorem WB.set {a:List Nat}(h:WB a)(p:Nat){w:Nat}(b:w<4294967296):WB (a.set p w):=by
 intro x c;rcases List.mem_or_eq_of_mem_set c with h1|h1
 ·exact h x h1
 ·subst h1;exact b
theorem WB.get {a:List Nat}(h:WB a){p w:Nat}(b:a[p]? =some w):w<4294967296:=h w (Zt b)
theorem WB.replicate (n:Nat):WB (List.replicate n 0):=by
 intro x a;rw[List.eq_of_mem_replicate a];decide
theorem PS {a:List Nat}{p w:Nat}(h:a[p]? =some w):val (a.drop p)=w+4294967296*val (a.drop (p+1)):=by
 obtain⟨b,rfl⟩:=Zd.1 h;rw[Z7 b];rfl
theorem Vk {a:List Nat}{p w:Nat}(h:a[p]? =some w):val (a.take (p+1))=val (a.take p)+w*4294967296^p:=by
 obtain⟨b,rfl⟩:=Zd.1 h;rw[List.take_add_one,Q1,Zg b];simp only[Option.toList_some,val,ZQ,Nat.mul_zero,Z3];rw[Yn (by omega),ZK]
theorem bg:∀(a:List Nat) (w:Nat),W9 (a++[w])=if w=0 then W9 a else a++[w]
 |[],w=>by simp[W9]
 |x::a,w=>by
  have c:=bg a w;by_cases h:w=0
  ·rw[if_pos h]at c⊢;simp only[ZR,W9,c]
  ·rw[if_neg h]at c⊢;simp only[ZR,W9,c];cases d:a++[w]with
   |nil=>simp at d
   |cons b l=>rfl
theorem iR {a:List Nat}{n w:Nat}(h:a[n]? =some w):a.take (n+1)=a.take n++[w]:=by
 rw[List.take_add_one,h];rfl
theorem PT:∀(a:List Nat),∃m,m<=a.length/\W9 a=a.take m
 |[]=>⟨0,by simp,rfl⟩
 |w::a=>by
  obtain⟨m,c,b⟩:=PT a;unfold W9;split
  ·split
   ·exact⟨0,by simp,by simp⟩
   ·exact⟨1,by simp,by simp⟩
  ·rw[b];exact⟨m+1,by simp;omega,by simp⟩
theorem NT (a:List Nat):(W9 a).length<=a.length:=by
 obtain⟨m,c,b⟩:=PT a;rw[b,ZQ];omega
theorem dM (a:List Nat):W9 a=a.take (W9 a).length:=by
 obtain⟨m,b,c⟩:=PT a;rw[c,ZQ,Yn b]
def dg:Nat->Nat->List Nat
 |0,_=>[]
 |n+1,v=>v%4294967296::dg n (v / 4294967296)
theorem Wd:∀(n v:Nat),(dg n v).length=n
 |0,_=>rfl
 |n+1,v=>by simp[dg,Wd n]
theorem gE:∀(n v:Nat),WB (dg n v)
 |0,_=>WB.nil
 |n+1,v=>WB.mk (by omega) (gE n _)
theorem ko:∀{n v:Nat},v<4294967296^n->val (dg n v)=v
 |0,v,h=>by simp only[Nat.pow_zero]at h;simp only[dg,val];omega
 |n+1,v,h=>by
  simp only[dg,val];rw[ZJ]at h;rw[ko (Yj (by rw[ZK];exact h))];omega
theorem CV:∀{r:List Nat},WB r->r=dg r.length (val r)
 |[],_=>rfl
 |w::r,h=>by
  have:=h.cons.1;simp only[Zi,dg,val];rw[show(w+4294967296*val r)%4294967296=w by omega,show(w+4294967296*val r) / 4294967296=val r by omega,<-CV h.cons.2]
theorem TI {n v:Nat}(h:v<4294967296^n):W9 (dg n v)=Xd v:=UG (gE n v) (ko h)
theorem Tu {r:List Nat}{n v:Nat}(a:WB r)(b:r.length=n)(c:val r=v):r=dg n v:=by
 subst b;subst c;exact CV a
theorem Vj {m n:Nat}(h:m<=n):4294967296^m<=4294967296^n:=Nat.pow_le_pow_right (by decide) h
theorem QV:∀{ws:List Nat},Canon ws->0<ws.length->4294967296^(ws.length-1)<=val ws
 |[],_,h=>by simp at h
 |[w],h,_=>by simp only[Canon]at h;simp only[val,Zi,Zu,Z4,YM,Nat.pow_zero];omega
 |w::v::ws,h,_=>by
  have:=QV (ws:=v::ws) h (by simp);simp only[Zi,Yb]at this⊢;rw[ZJ];simp only[val]at this⊢;omega
theorem Vc {n k:Nat}(h:n<4294967296^k):(Xd n).length<=k:=by
 rcases Yy k (Xd n).length with hk|hk
 ·have a:=QV (Ws n) (by omega);rw[Xj]at a;have:=ZD (Vj (show k<=(Xd n).length-1 by omega)) a;omega
 ·exact hk
theorem Te (n:Nat):n<4294967296^(Xd n).length:=by
 have:=WN (Xn n)
 rwa[Xj]at this
theorem XM {m n:Nat}(h:m<=n):(Xd m).length<=(Xd n).length:=Vc (Z5 h (Te n))
theorem Vq (m n:Nat):(Xd (m*n)).length<=(Xd m).length+(Xd n).length:=
 Vc (by rw[Nat.pow_add];exact YY (Te m) (Te n))
theorem Uu (m n:Nat):(Xd (m+n)).length<=(Xd m).length+(Xd n).length+1:=by
 have a:=ZW (Te m) (Vj (Nat.le_add_right _ (Xd n).length));have b:=ZW (Te n) (Vj (Nat.le_add_left _ (Xd m).length));exact Vc (by rw[ZJ];omega)
theorem bd (a:List Nat)(i:Nat):val (a.take (i+1))=val (a.take i)+a[i]?.getD 0*4294967296^i:=by
 cases h:a[i]? with
 |none=>
  have :a.length<=i:=List.getElem?_eq_none_iff.1 h;rw[Zb (by omega),Zb this];simp
 |some w=>rw[Vk h];rfl
abbrev Tm:=Int×List Nat
def Wj:List Nat->List Nat->Int
 |a::as1,b::bs=>if a<b then .negSucc 0 else if b<a then .ofNat 1 else Wj as1 bs
 |_,_=>.ofNat 0
def Xg (m n:List Nat):List Nat:=List.zipWith (·+ ·) m n
theorem U0:∀m,Wj m m=.ofNat 0
 |[]=>rfl
 |a::m=>by simp only[Wj,Zv,if_false];exact U0 m
theorem VQ:∀{m n:List Nat},m.length=n.length->Wj m n=.ofNat 0->m=n
 |[],[],_,_=>rfl
 |[],_::_,h,_=>by simp at h
 |_::_,[],h,_=>by simp at h
 |a::m,b::n,h,hc=>by
  simp only[Wj]at hc;split at hc
  ·cases hc
  ·split at hc
   ·simp at hc
   ·rw[VQ (by simpa using h) hc,show a=b by omega]
theorem WA:∀(m n:List Nat),Wj m n=.ofNat 1\/Wj m n=.negSucc 0\/Wj m n=.ofNat 0
 |[],[]=>.inr (.inr rfl)
 |[],_::_=>.inr (.inr rfl)
 |_::_,[]=>.inr (.inr rfl)
 |a::m,b::n=>by
  simp only[Wj];split
  ·exact .inr (.inl rfl)
  ·split
   ·exact .inl rfl
   ·exact WA m n
def pair:List Tm->(List Nat->Int)->Int
 |[],_=>0
 |t::ts,φ=>t.1*φ t.2+pair ts φ
def EH:List Tm->Prop
 |[]=>True
 |[t]=>t.1≠0
 |t::u::ts=>t.1≠0/\Wj t.2 u.2=.ofNat 1/\EH (u::ts)
theorem rh {U V T W p q D:Nat}(C:0<p)(b:W*p<=V)(c:V<(W+1)*p)(f:T*p<=U)(g:U<(T+1)*p)(B:D*p<=V)(l:q<=D)(i:U<V*(D+1))
  (d:q*W<=T) (a:D<=q\/T<(q+1)*W):U / V<=q/\q<=U / V+1:=by
 have j:0<V:=by
  rcases Z8 V with h|h
  ·subst h;omega
  ·exact h
 constructor
 ·rcases a with a|a
  ·have :U / V<D+1:=Yj i;omega
  ·have e:U<(q+1)*V:=by
    have m:(T+1)*p<=((q+1)*W)*p:=Zo p a;have n:((q+1)*W)*p=(q+1)*(W*p):=Yr ..;have o:(q+1)*(W*p)<=(q+1)*V:=YH _ b;omega
   have :U / V<q+1:=Yj (by rw[ZK];exact e);omega
 ·rcases Yy (U / V+1) q with h|h
  ·exfalso;have r:U<(U / V+1)*V:=by
    have:=Nat.lt_mul_div_succ U j;rw[ZK];exact this
   have s:(U / V+1)*V<=(q-1)*V:=Zo V (Nat.le_sub_one_of_lt h);have t:q*W*p<=T*p:=Zo p d;have u:q*V<=q*((W+1)*p):=YH q (Nat.le_of_lt c);have v:q*((W+1)*p)=q*W*p+q*p:=by rw[ZE,Z0,Nat.mul_add,Yr]
   have w:q*p<=D*p:=Zo p l;have A:(q-1)*V+V=q*V:=by
    obtain⟨k,rfl⟩:∃k,q=k+1:=⟨q-1,(Nat.sub_add_cancel (ZD (Nat.succ_le_succ (Zs _)) h)).symm⟩;rw[Yb,ZE,Z0]
   generalize q*W*p=x at *;generalize q*p=y at *;generalize q*V=z at *;generalize q*((W+1)*p)=x1 at *;generalize (U / V+1)*V=x2 at *;generalize (q-1)*V=x3 at *;generalize T*p=x4 at *;generalize D*p=x5 at *;omega
  ·exact h
theorem TE:∀(m n v:Nat),dg (m+n) v=dg m v++dg n (v / 4294967296^m)
 |0,n,v=>by simp[dg]
 |m+1,n,v=>by
  rw[show m+1+n=(m+n)+1 by omega];simp only[dg,ZR,TE m n,YX,ZJ];rw[ZK (4294967296^m)]
theorem lI:∀n,dg n 0=List.replicate n 0
 |0=>rfl
 |n+1=>by simp[dg,lI n,List.replicate_succ]
theorem rH:∀(n v:Nat),dg n (v%4294967296^n)=dg n v
 |0,_=>rfl
 |n+1,v=>by
  simp only[dg];have a:v%4294967296^(n+1)%4294967296=v%4294967296:=by
   rw[ZJ,Nat.mod_mul_left_mod]
  have b:v%4294967296^(n+1) / 4294967296=(v / 4294967296)%4294967296^n:=by
   rw[ZJ,ZK,Nat.mod_mul_right_div_self]
  rw[a,b,rH n]
theorem AP {m n v:Nat}(h:m<=n):(dg n v).take m=dg m v:=by
 obtain⟨k,rfl⟩:=Nat.exists_eq_add_of_le h;rw[TE,List.take_left' (Wd m v)]
theorem Ci {m n v:Nat}(h:m<=n):(dg n v).drop m=dg (n-m) (v / 4294967296^m):=by
 obtain⟨k,rfl⟩:=Nat.exists_eq_add_of_le h;rw[TE,List.drop_left' (Wd m v),YD]
theorem bS {n v i:Nat}(h:i<n):(dg n v)[i]? =some (v / 4294967296^i%4294967296):=by
 have a:=Ci (m:=i) (n:=n) (v:=v) (by omega);obtain⟨k,b⟩:∃k,n-i=k+1:=⟨n-i-1,by omega⟩;rw[b,dg]at a;have:=congrArg (·[0]?) a;simpa using this
def pK (V n:Nat):Prop:=4294967296^n<=2*V/\V<4294967296^n
abbrev Qm:=Rat×List Nat
def Vu:List Qm->List Qm->List Qm
 |[],us=>us
 |ts,[]=>ts
 |t::ts,u::us=>
  if Wj t.2 u.2=.ofNat 1 then t::Vu ts (u::us)
  else if Wj t.2 u.2=.negSucc 0 then u::Vu (t::ts) us
  else if t.1+u.1=0 then Vu ts us else(t.1+u.1,t.2)::Vu ts us
termination_by ts us=>ts.length+us.length
theorem Wr (a:List Qm):Vu [] a=a:=by unfold Vu;rfl
theorem VD (a:List Qm):Vu a []=a:=by cases a<;>(unfold Vu;rfl)
theorem SA (t u:Qm)(a b:List Qm):Vu (t::a) (u::b)=if Wj t.2 u.2=.ofNat 1 then t::Vu a (u::b)
  else if Wj t.2 u.2=.negSucc 0 then u::Vu (t::a) b
  else if t.1+u.1=0 then Vu a b else(t.1+u.1,t.2)::Vu a b:=by
 rw[Vu]
def Wg:List Qm->(List Nat->Rat)->Rat
 |[],_=>0
 |t::ts,φ=>t.1*φ t.2+Wg ts φ
def Q8 (ts:List Qm):Prop:=∀t∈ts,t.2.length=8
theorem Q8.tail {t:Qm}{a:List Qm}(h:Q8 (t::a)):Q8 a:=fun x b=>h x (Zc _ b)
theorem Q8.head {t:Qm}{a:List Qm}(h:Q8 (t::a)):t.2.length=8:=h t (Ze ..)
theorem Rg (f:List Nat->Rat):∀(n:Nat) (c d:List Qm),c.length+d.length<=n->Q8 c->Q8 d->Wg (Vu c d) f=Wg c f+Wg d f
 |_,[],d,_,_,_=>by rw[Wr];simp only[Wg];grind
 |_,t::c,[],_,_,_=>by rw[VD];simp only[Wg];grind
 |0,t::c,u::d,h,_,_=>by simp at h
 |n+1,t::c,u::d,h,h1,h2=>by
  simp only[Zi]at h;rw[SA];split
  ·simp only[Wg,Rg f n c (u::d) (by simp;omega) h1.tail h2];grind
  ·split
   ·simp only[Wg,Rg f n (t::c) d (by simp;omega) h1 h2.tail];grind
   ·rename_i a b;have e:Wj t.2 u.2=.ofNat 0:=by
     rcases WA t.2 u.2 with q|q|q
     ·exact absurd q a
     ·exact absurd q b
     ·exact q
    have e2:=VQ (by rw[h1.head,h2.head]) e;have g:=Rg f n c d (by omega) h1.tail h2.tail;split
    ·rename_i z;simp only[Wg,g];rw[<-e2];have :t.1*f t.2+u.1*f t.2=0:=by rw[<-Rat.add_mul,z,Rat.zero_mul]
     grind
    ·simp only[Wg,g];rw[<-e2,Rat.add_mul];grind
def X3 (z:Rat)(m:List Nat)(ts:List Qm):List Qm:=ts.map fun t=>(z*t.1,Xg m t.2)
def UI (z:Rat)(ts:List Qm):List Qm:=ts.map fun t=>(z*t.1,t.2)
def Ri (ts:List Qm):List Qm:=UI (-1) ts
theorem QA (z:Rat)(m:List Nat)(b:List Nat->Rat):∀a,Wg (X3 z m a) b=z*Wg a fun k=>b (Xg m k)
 |[]=>by simp[X3,Wg]
 |t::a=>by
  have c:=QA z m b a;unfold X3 at c;simp only[X3,Zw,Wg,c]
  grind
theorem jk (z:Rat)(b:List Nat->Rat):∀a,Wg (UI z a) b=z*Wg a b
 |[]=>by simp[UI,Wg]
 |t::a=>by
  have c:=jk z b a;unfold UI at c;simp only[UI,Zw,Wg,c]
  grind
theorem kO (b:List Nat->Rat)(a:List Qm):Wg (Ri a) b= -Wg a b:=by
 unfold Ri;rw[jk];grind
def U7 (acc:List Qm):List Qm->List Qm->List Qm
 |[],_=>acc
 |t::ts,us=>U7 (Vu acc (X3 t.1 t.2 us)) ts us
theorem Vs {b ψ:List Nat->Rat}:∀{a:List Qm},(∀t∈a,b t.2=ψ t.2)->Wg a b=Wg a ψ
 |[],_=>rfl
 |t::a,h=>by
  simp only[Wg];rw[h t (by simp),Vs fun x c=>h x (Zc _ c)]
theorem sM (b c:List Nat->Rat):∀a,(Wg a fun m=>b m+c m)=Wg a b+Wg a c
 |[]=>by simp only[Wg];grind
 |t::a=>by simp only[Wg,sM b c a];grind
theorem fj (z:Rat)(b:List Nat->Rat):∀a,(Wg a fun m=>z*b m)=z*Wg a b
 |[]=>by simp[Wg]
 |t::a=>by simp only[Wg,fj z b a];grind
theorem RB:∀a,(Wg a fun _=>0)=0
 |[]=>rfl
 |t::a=>by simp only[Wg,RB a];grind
theorem nD (c:List Nat->List Nat->Rat):∀(b a:List Qm),(Wg b fun m=>Wg a fun k=>c m k)=Wg a fun k=>Wg b fun m=>c m k
 |[],a=>by simp only[Wg,RB]
 |t::b,a=>by
  simp only[Wg,nD c b a];rw[<-fj,<-sM]
structure PN (ts:List Qm):Prop where
 nz:∀t∈ts,t.1≠0
 pw:ts.Pairwise fun t u=>Wj t.2 u.2=.ofNat 1
theorem PN.tail {t:Qm}{a:List Qm}(h:PN (t::a)):PN a:=⟨fun x b=>h.nz x (Zc _ b),(Zr.1 h.pw).2⟩
theorem PN.nil:PN []:=⟨(fun _ h=>by cases h),.nil⟩
theorem PN.cons {t:Qm}{b:List Qm}(h0:t.1≠0)(h:PN b)(c:∀u∈b,Wj t.2 u.2=.ofNat 1):PN (t::b):=
 ⟨fun x a=>by rcases Zk.1 a with rfl|a;exact h0;exact h.nz x a,Zr.2 ⟨c,h.pw⟩⟩
def QT (ts:List Qm)(m:List Nat):Rat:=Wg ts fun k=>if k=m then 1 else 0
theorem gH (m:List Nat):QT [] m=0:=rfl
theorem O0 (t:Qm)(a:List Qm)(m:List Nat):QT (t::a) m=(if t.2=m then t.1 else 0)+QT a m:=by
 unfold QT;simp only[Wg];split<;>grind
theorem aP {a:List Qm}{m:List Nat}(h:∀t∈a,t.2≠m):QT a m=0:=by
 unfold QT;rw[Vs (ψ:=fun _=>0) fun t b=>if_neg (h t b),RB]
theorem lP {m n:List Nat}(h:Wj m n=.ofNat 1):m≠n:=by
 intro e;subst e;rw[U0]at h;simp at h
theorem PN.US:∀{a:List Qm},PN a->∀t∈a,QT a t.2=t.1
 |u::a,h,t,ht=>by
  rw[O0];rcases Zk.1 ht with rfl|ht
  ·rw[if_pos rfl,aP fun x b e=>lP ((Zr.1 h.pw).1 x b) e.symm];grind
  ·rw[if_neg (lP ((Zr.1 h.pw).1 t ht)),h.tail.US t ht];grind
theorem PN.mem_iff {b:List Qm}(h:PN b)(m:List Nat):QT b m≠0↔∃t∈b,t.2=m:=by
 constructor
 ·intro c;by_cases e:∃t∈b,t.2=m
  ·exact e
  ·exact absurd (aP fun t a d=>e ⟨t,a,d⟩) c
 ·rintro ⟨t,a,rfl⟩;rw[h.US t a];exact h.nz t a
theorem gJ:∀{m n:List Nat},Wj m n=.ofNat 1->Wj n m=.negSucc 0
 |[],[],h=>by simp[Wj]at h
 |[],_::_,h=>by simp[Wj]at h
 |_::_,[],h=>by simp[Wj]at h
 |a::m,b::n,h=>by
  simp only[Wj]at h⊢;split at h
  ·cases h
  ·split at h
   ·rename_i d c;rw[if_pos c]
   ·rename_i d c;rw[if_neg c,if_neg d];exact gJ h
theorem PN.ext:∀{a b:List Qm},PN a->PN b->(∀m,QT a m=QT b m)->a=b
 |[],[],_,_,_=>rfl
 |[],u::b,_,h2,h=>by
  have:=h2.US u (Ze ..);rw[<-h,gH]at this;exact absurd this.symm (h2.nz u (Ze ..))
 |t::a,[],h1,_,h=>by
  have:=h1.US t (Ze ..);rw[h,gH]at this;exact absurd this.symm (h1.nz t (Ze ..))
 |t::a,u::b,h1,h2,h=>by
  obtain⟨x,e,j⟩:=(h2.mem_iff t.2).1 (by rw[<-h,h1.US t (Ze ..)];exact h1.nz t (Ze ..));obtain⟨y,f,k⟩:=(h1.mem_iff u.2).1 (by rw[h,h2.US u (Ze ..)];exact h2.nz u (Ze ..));have i:t.2=u.2:=by
   rcases Zk.1 e with rfl|e
   ·exact j.symm
   ·rcases Zk.1 f with rfl|f
    ·exact k
    ·exfalso;have g:=(Zr.1 h2.pw).1 x e;have c:=(Zr.1 h1.pw).1 y f;rw[j]at g;rw[k]at c;rw[gJ g]at c;cases c
  have l:t.1=u.1:=by rw[<-h1.US t (Ze ..),<-h2.US u (Ze ..),h,i]
  have d:t=u:=Prod.ext l i;subst d;rw[PN.ext h1.tail h2.tail fun m=>by
   have:=h m;rw[O0,O0]at this;exact Rat.add_left_cancel _ this]
theorem PH {a b:Rat}(c:a≠0)(d:b≠0):a*b≠0:=fun h=>(Rat.mul_eq_zero.1 h).elim c d
theorem Sx:∀(m n:List Nat),Wj n m=.negSucc 0↔Wj m n=.ofNat 1
 |[],[]=>by simp[Wj]
 |[],_::_=>by simp[Wj]
 |_::_,[]=>by simp[Wj]
 |a::m,b::n=>by
  simp only[Wj];by_cases d:b<a
  ·have c:¬a<b:=by omega
   simp[d,c]
  ·by_cases c:a<b
   ·simp[d,c]
   ·simp only[d,c,if_false];exact Sx m n
theorem Tw:∀{l m n:List Nat},l.length=m.length->m.length=n.length->Wj l m=.ofNat 1->Wj m n=.ofNat 1->Wj l n=.ofNat 1
 |[],_,_,_,_,h,_=>by simp[Wj]at h
 |_::_,[],_,h,_,_,_=>by simp at h
 |_::_,_::_,[],_,h,_,_=>by simp at h
 |a::l,b::m,c::n,h1,h2,h3,h4=>by
  simp only[Wj]at h3 h4⊢;by_cases d:a<b
  ·simp[d]at h3
  ·by_cases e:b<c
   ·simp[e]at h4
   ·by_cases f:b<a
    ·have :c<a:=by omega
     have :¬a<c:=by omega
     simp[*]
    ·by_cases g:c<b
     ·have :c<a:=by omega
      have :¬a<c:=by omega
      simp[*]
     ·simp only[d,f,if_false]at h3;simp only[e,g,if_false]at h4;have :¬a<c:=by omega
      have :¬c<a:=by omega
      simp only[*,if_false];exact Tw (by simpa using h1) (by simpa using h2) h3 h4
theorem SP:∀(n:Nat) {b c:List Qm} {x:Qm},b.length+c.length<=n->Q8 b->Q8 c->x∈Vu b c->(∃t∈b,t.2=x.2)\/∃u∈c,u.2=x.2
 |_,[],c,x,_,_,_,h=>by rw[Wr]at h;exact .inr ⟨x,h,rfl⟩
 |_,t::b,[],x,_,_,_,h=>by rw[VD]at h;exact .inl ⟨x,h,rfl⟩
 |0,_::_,_::_,_,h,_,_,_=>by simp at h
 |n+1,t::b,u::c,x,hn,h1,h2,h=>by
  have f:Q8 b:=fun x d=>h1 x (Zc _ d)
  have g:Q8 c:=fun x d=>h2 x (Zc _ d)
  simp only[Zi]at hn;rw[SA]at h;split at h
  ·rcases Zk.1 h with rfl|h
   ·exact .inl ⟨_,Ze ..,rfl⟩
   ·rcases SP n (by simp;omega) f h2 h with⟨y,a,e⟩|⟨y,a,e⟩
    ·exact .inl ⟨y,Zc _ a,e⟩
    ·exact .inr ⟨y,a,e⟩
  ·split at h
   ·rcases Zk.1 h with rfl|h
    ·exact .inr ⟨_,Ze ..,rfl⟩
    ·rcases SP n (by simp;omega) h1 g h with⟨y,a,e⟩|⟨y,a,e⟩
     ·exact .inl ⟨y,a,e⟩
     ·exact .inr ⟨y,Zc _ a,e⟩
   ·have key:x∈Vu b c->(∃y∈t::b,y.2=x.2)\/∃y∈u::c,y.2=x.2:=by
     intro h;rcases SP n (by omega) f g h with⟨y,a,e⟩|⟨y,a,e⟩
     ·exact .inl ⟨y,Zc _ a,e⟩
     ·exact .inr ⟨y,Zc _ a,e⟩
    split at h
    ·exact key h
    ·rcases Zk.1 h with rfl|h
     ·exact .inl ⟨t,Ze ..,rfl⟩
     ·exact key h
theorem dO {d f:List Qm}(b:Q8 d)(c:Q8 f):Q8 (Vu d f):=by
 intro x g;rcases SP _ (Zh _) b c g with⟨y,a,e⟩|⟨y,a,e⟩
 ·rw[<-e];exact b y a
 ·rw[<-e];exact c y a
theorem aM:∀(n:Nat) {g i:List Qm},g.length+i.length<=n->Q8 g->Q8 i->PN g->PN i->PN (Vu g i)
 |_,[],i,_,_,_,_,h=>by rw[Wr];exact h
 |_,t::g,[],_,_,_,h,_=>by rw[VD];exact h
 |0,_::_,_::_,h,_,_,_,_=>by simp at h
 |n+1,t::g,u::i,hn,h1,h2,d1,d2=>by
  have j:Q8 g:=fun x f=>h1 x (Zc _ f)
  have k:Q8 i:=fun x f=>h2 x (Zc _ f)
  have p:=h1 t (Ze ..);have r:=h2 u (Ze ..);have l:=(Zr.1 d1.pw).1;have m:=(Zr.1 d2.pw).1;simp only[Zi]at hn;rw[SA];split
  ·rename_i e;refine PN.cons (d1.nz t (Ze ..)) (aM n (by simp;omega) j h2 d1.tail d2) fun x f=> ?_
   rcases SP _ (Zh _) j h2 f with⟨y,c,d⟩|⟨y,c,d⟩
   ·rw[<-d];exact l y c
   ·rw[<-d];rcases Zk.1 c with rfl|c
    ·exact e
    ·exact Tw (by omega) (by rw[r,k y c]) e (m y c)
  ·split
   ·rename_i e;have e:=(Sx u.2 t.2).1 e;refine PN.cons (d2.nz u (Ze ..)) (aM n (by simp;omega) h1 k d1 d2.tail) fun x f=> ?_
    rcases SP _ (Zh _) h1 k f with⟨y,c,d⟩|⟨y,c,d⟩
    ·rw[<-d];rcases Zk.1 c with rfl|c
     ·exact e
     ·exact Tw (by omega) (by rw[p,j y c]) e (l y c)
    ·rw[<-d];exact m y c
   ·rename_i a b;have e:Wj t.2 u.2=.ofNat 0:=by
     rcases WA t.2 u.2 with q|q|q
     ·exact absurd q a
     ·exact absurd q b
     ·exact q
    have e2:=VQ (by omega) e;have o:=aM n (by omega) j k d1.tail d2.tail;split
    ·exact o
    ·rename_i z;refine PN.cons z o fun x f=> ?_
     rcases SP _ (Zh _) j k f with⟨y,c,d⟩|⟨y,c,d⟩
     ·rw[<-d];exact l y c
     ·rw[<-d];simp only[];rw[e2];exact m y c
theorem wL {m n:List Nat}(a:m.length=8)(b:n.length=8):(Xg m n).length=8:=by simp[Xg,a,b]
theorem NK:∀(m a b:List Nat),m.length=a.length->a.length=b.length->Wj (Xg m a) (Xg m b)=Wj a b
 |[],[],[],_,_=>rfl
 |[],_::_,_,h,_=>by simp at h
 |_::_,[],_,h,_=>by simp at h
 |_,[],_::_,_,h=>by simp at h
 |_,_::_,[],_,h=>by simp at h
 |x::m,y::a,z::b,h1,h2=>by
  have c:=NK m a b (by simpa using h1) (by simpa using h2);unfold Xg at c⊢;simp only[ZG,Wj];by_cases d:y<z
  ·rw[if_pos d,if_pos (by omega)]
  ·rw[if_neg d,if_neg (by omega)];by_cases e:z<y
   ·rw[if_pos e,if_pos (by omega)]
   ·rw[if_neg e,if_neg (by omega)];exact c
theorem Tz {z:Rat}{m:List Nat}(c:m.length=8){b:List Qm}(h:Q8 b):Q8 (X3 z m b):=by
 intro x a;simp only[X3,ZH]at a;obtain⟨t,d,rfl⟩:=a;exact wL c (h t d)
theorem cm {z:Rat}(d:z≠0){m:List Nat}(f:m.length=8):∀{a:List Qm},Q8 a->PN a->PN (X3 z m a)
 |[],_,_=>PN.nil
 |t::a,hw,h=>by
  have e:Q8 a:=fun x b=>hw x (Zc _ b)
  have g:=cm d f e h.tail;refine PN.cons (t:=(z*t.1,Xg m t.2)) (PH d (h.nz t (Ze ..))) g fun x b=> ?_
  simp only[ZH]at b;obtain⟨u,c,rfl⟩:=b;have i:=hw t (Ze ..);have j:=e u c;simp only[];rw[NK m t.2 u.2 (by omega) (by omega)];exact(Zr.1 h.pw).1 u c
theorem kL:∀{b c a:List Qm},Q8 b->Q8 c->Q8 a->Q8 (U7 a b c)
 |[],_,_,_,_,h=>h
 |t::b,c,a,h1,h2,h3=>by
  simp only[U7];exact kL (fun x d=>h1 x (Zc _ d)) h2 (dO h3 (Tz (h1 t (Ze ..)) h2))
theorem eh:∀{b c a:List Qm},Q8 b->Q8 c->Q8 a->(∀t∈b,t.1≠0)->PN c->PN a->PN (U7 a b c)
 |[],_,_,_,_,_,_,_,h=>h
 |t::b,c,a,h1,h2,h3,h4,h5,h6=>by
  simp only[U7];have l:=h1 t (Ze ..);exact eh (fun x d=>h1 x (Zc _ d)) h2 (dO h3 (Tz l h2)) (fun x d=>h4 x (Zc _ d)) h5 (aM _ (Zh _) h3 (Tz l h2) h6 (cm (h4 t (Ze ..)) l h2 h5))
theorem ab (c:List Nat->Rat):∀{d b a:List Qm},Q8 d->Q8 b->Q8 a->Wg (U7 a d b) c=Wg a c+Wg d fun m=>Wg b fun k=>c (Xg m k)
 |[],b,a,_,_,_=>by simp only[U7,Wg];grind
 |t::d,b,a,h1,h2,h3=>by
  have l:=h1 t (Ze ..);simp only[U7];rw[ab c (fun x e=>h1 x (Zc _ e)) h2 (dO h3 (Tz l h2)),Rg c _ _ _ (Zh _) h3 (Tz l h2),QA];simp only[Wg];grind
theorem RU:∀(n:Nat) (a b:List Qm),a.length+b.length<=n->(Vu a b).length<=a.length+b.length
 |_,[],b,_=>by rw[Wr];simp
 |_,t::a,[],_=>by rw[VD];simp
 |0,t::a,u::b,h=>by simp at h
 |n+1,t::a,u::b,h=>by
  simp only[Zi]at h;have c:=RU n a (u::b) (by simp;omega);have d:=RU n (t::a) b (by simp;omega);have e:=RU n a b (by omega);simp only[Zi]at c d;rw[SA];split
  ·simp only[Zi];omega
  ·split
   ·simp only[Zi];omega
   ·split
    ·simp only[Zi];omega
    ·simp only[Zi];omega
end Go.Num
